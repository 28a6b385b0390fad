/- A semantics of values for the model, shown sound for it, and the lifting of functions to plain propositions: part 2. -/
import Derived.Test.YtopngokkgogolaaFwA
import Derived.Below
import Derived.Laws.AppendOwn
import Derived.Laws.BytesString
import Derived.Orders
set_option linter.unusedVariables false
set_option linter.unusedSimpArgs false
set_option linter.unusedSectionVars false
namespace Go.VS
theorem AV.Mq:∀(p:List Stp) {a x:AV} (b:AV),a.at p=some x→(a.put p b).at p=some b
 |[],_,_,_,_=>rfl
 |s::r,a,x,b,h=>by
  cases a with
  |sl τ k xs=>
   cases τ with
   |own=>
    simp only[AV.at]at h
    split at h
    case isFalse=>cases h
    rename_i hk
    cases hx:(xs[s.i]?).bind (·[s.c]?)with
    |none=>rw[hx]at h;cases h
    |some a1=>
     rw[hx]at h
     have ih:=AV.Mq r b (show a1.at r=some x from h)
     cases hxi:xs[s.i]?with
     |none=>rw[hxi]at hx;cases hx
     |some y=>
      rw[hxi]at hx
      simp only[Option.bind_some]at hx
      simp only[AV.put,hk,if_true,AV.at,List.getElem?_modify_eq,hxi,Option.map_eq_map,Option.map_some,Option.bind_some,hx,ih]
   |_=>simp[AV.at]at h
  |_=>simp[AV.at]at h
theorem AV.T9:∀(p:List Stp) (a x y:AV),(∃b,a.at p=some b)→(a.put p x).put p y=a.put p y
 |[],_,_,_,_=>rfl
 |s::r,a,x,y,⟨b,h⟩=>by
  cases a with
  |sl τ k xs=>
   cases τ with
   |own=>
    simp only[AV.at]at h
    split at h
    case isFalse=>cases h
    rename_i hk
    simp only[AV.put,hk,if_true]
    congr 1
    apply List.ext_getElem?
    intro i
    simp only[List.getElem?_modify]
    cases hxi:xs[i]?with
    |none=>simp
    |some el=>
     simp only[Option.map_eq_map,Option.map_some]
     by_cases hi:s.i=i
     ·simp only[hi,if_true]
      congr 1
      apply List.ext_getElem?
      intro c
      simp only[List.getElem?_modify]
      cases hc:el[c]?with
      |none=>simp
      |some u=>
       simp only[Option.map_eq_map,Option.map_some]
       by_cases hcc:s.c=c
       ·simp only[hcc,if_true]
        have:u.at r=some b:=by
         rw[hi,hxi]at h
         simp only[Option.bind_some]at h
         rw[hcc,hc]at h
         exact h
        rw[AV.T9 r u x y ⟨b,this⟩]
       ·simp only[hcc,if_false]
     ·simp only[hi,if_false]
   |_=>simp[AV.at]at h
  |_=>simp[AV.at]at h
theorem AV.N4:∀(p:List Stp) {a:AV} {k:Nat} {xs:List (List AV)} (i c:Nat) (b:AV),a.at p=some (.sl .own k xs)→
  a.put (p++[⟨i,k,c⟩]) b=a.put p (.sl .own k (xs.modify i (·.modify c (fun _=>b))))
 |[],a,k,xs,i,c,b,h=>by
  simp only[AV.at,Option.some.injEq]at h
  subst h
  simp[AV.put]
 |s::r,a,k,xs,i,c,b,h=>by
  cases a with
  |sl τ k0 xs0=>
   cases τ with
   |own=>
    simp only[AV.at]at h
    split at h
    case isFalse=>cases h
    rename_i hk
    simp only[List.cons_append,AV.put,hk,if_true]
    congr 1
    apply List.ext_getElem?
    intro j
    simp only[List.getElem?_modify]
    cases hxi:xs0[j]?with
    |none=>simp
    |some el=>
     simp only[Option.map_eq_map,Option.map_some]
     by_cases hi:s.i=j
     ·simp only[hi,if_true]
      congr 1
      apply List.ext_getElem?
      intro c'
      simp only[List.getElem?_modify]
      cases hc:el[c']?with
      |none=>simp
      |some u=>
       simp only[Option.map_eq_map,Option.map_some]
       by_cases hcc:s.c=c'
       ·simp only[hcc,if_true]
        have:u.at r=some (.sl .own k xs):=by
         rw[hi,hxi]at h
         simp only[Option.bind_some]at h
         rw[hcc,hc]at h
         exact h
        rw[AV.N4 r i c b this]
       ·simp only[hcc,if_false]
     ·simp only[hi,if_false]
   |_=>simp[AV.at]at h
  |_=>simp[AV.at]at h
theorem AV.Kw:∀(p q:List Stp) {a x:AV} {k:Nat} {xs:List (List AV)} (b:AV),a.at p=some x→a.at q=some (.sl .own k xs)→Aside p q→∃xs',(a.put p b).at q=some (.sl .own k xs')
 |[],q,_,_,_,_,_,_,_,h=>absurd ⟨q,rfl⟩ h
 |s::r,[],a,x,k,xs,b,hp,hq,_=>by
  simp only[AV.at,Option.some.injEq]at hq
  subst hq
  simp only[AV.put]
  split
  ·exact⟨_,rfl⟩
  ·exact⟨_,rfl⟩
 |s::r,t::q,a,x,k,xs,b,hp,hq,h=>by
  cases a with
  |sl τ k0 xs0=>
   cases τ with
   |own=>
    simp only[AV.at]at hp hq
    split at hp
    case isFalse=>cases hp
    rename_i hk
    split at hq
    case isFalse=>cases hq
    rename_i hk2
    simp only[AV.put,hk,if_true,AV.at,hk2]
    rw[List.getElem?_modify]
    cases hxi:xs0[t.i]?with
    |none=>rw[hxi]at hq;cases hq
    |some el=>
     rw[hxi]at hq
     simp only[Option.bind_some]at hq
     simp only[Option.map_eq_map,Option.map_some,Option.bind_some]
     cases hc:el[t.c]?with
     |none=>rw[hc]at hq;cases hq
     |some u=>
      rw[hc]at hq
      simp only[Option.bind_some]at hq
      by_cases hi:s.i=t.i
      ·simp only[hi,if_true]
       rw[List.getElem?_modify,hc]
       simp only[Option.map_eq_map,Option.map_some,Option.bind_some]
       by_cases hcc:s.c=t.c
       ·simp only[hcc,if_true]
        have hst:s=t:=by cases s;cases t;simp_all
        have hp':u.at r=some x:=by
         rw[hi,hxi]at hp
         simp only[Option.bind_some]at hp
         rw[hcc,hc]at hp
         exact hp
        exact AV.Kw r q b hp' hq (fun⟨w,hw⟩=>h ⟨w,by rw[hst,hw];rfl⟩)
       ·simp only[hcc,if_false];exact⟨xs,hq⟩
      ·simp only[hi,if_false,hc,Option.bind_some];exact⟨xs,hq⟩
   |_=>simp[AV.at]at hp
  |_=>simp[AV.at]at hp
section
variable{E:Env}{lam:Nat→Nat}{z:Nat→Prop}{fp:Ky→List Nat}{hd:Hands}{st:St}{tm:Array Value}{w:World}{ds:List Deferred}
theorem EW{α:Type}(f:Nat→α)(t:Nat)(x y:α):upd (upd f t x) t y=upd f t y:=by
 funext t';simp only[upd];split<;>rfl
theorem SV.setCell_setCell(s:SV)(j:Nat)(x y:AV):(s.setCell j x).setCell j y=s.setCell j y:=by
 cases s with
 |one a=>cases j<;>rfl
 |agg l=>simp[SV.setCell]
theorem MT(r:Root)(x y:AV)(h:∃a,st.root r=some a):(st.Ar r x).Ar r y=st.Ar r y:=by
 obtain⟨a,h⟩:=h
 cases r with
 |slot t j=>
  obtain⟨s,hs,hj⟩:=St.Dm h
  have e:upd st.sl t (TV.val true (s.setCell j x)) t=TV.val true (s.setCell j x):=by simp[upd]
  simp only[St.Ar,hs,TV.setCell,e,SV.setCell_setCell,EW]
 |obj o c=>
  obtain⟨l,hg,hc⟩:=St.Di h
  have e:upd st.hp.get o (some (l.set c x)) o=some (l.set c x):=by simp[upd]
  simp only[St.Ar,hg,Heap.set,e,EW,List.set_set]
theorem HO(r:Root)(x:AV){a:AV}(h:st.root r=some a):(st.Ar r x).root r=some x:=by
 cases r with
 |slot t j=>
  obtain⟨s,hs,hj⟩:=St.Dm h
  simp only[St.Ar,St.root,upd,if_true,hs,TV.setCell,TV.cell]
  rw[SV.Ed s j a x hj,List.getElem?_set]
  simp only[if_true]
  rw[if_pos]
  rcases Nat.lt_or_ge j s.cells.length with h'|h'
  ·exact h'
  ·simp[List.getElem?_eq_none h']at hj
 |obj o c=>
  obtain⟨l,hg,hc⟩:=St.Di h
  simp only[St.Ar,hg,St.root,Heap.set,upd,if_true,Option.bind_some]
  rw[List.getElem?_set]
  simp only[if_true]
  rw[if_pos]
  rcases Nat.lt_or_ge c l.length with h'|h'
  ·exact h'
  ·simp[List.getElem?_eq_none h']at hc
theorem Gw{r r':Root}{x a:AV}(h:st.root r=some a)(hne:r'≠r):(st.Ar r x).root r'=st.root r':=by
 cases r with
 |slot t j=>
  obtain⟨s,hs,hj⟩:=St.Dm h
  cases r' with
  |obj o c=>rfl
  |slot t' j'=>
   simp only[St.Ar,St.root,upd]
   by_cases ht:t'=t
   ·subst ht
    have hjj:j'≠j:=fun e=>hne (by rw[e])
    simp only[if_true,hs,TV.setCell,TV.cell]
    rw[SV.Ed s j a _ hj,List.getElem?_set_ne (fun e=>hjj e.symm)]
   ·rw[if_neg ht]
 |obj o c=>
  obtain⟨l,hg,hc⟩:=St.Di h
  cases r' with
  |slot t j=>simp only[St.Ar,hg,St.root]
  |obj o' c'=>
   simp only[St.Ar,hg,St.root,Heap.set,upd]
   by_cases ho:o'=o
   ·subst ho
    have hcc:c'≠c:=fun e=>hne (by rw[e])
    simp only[if_true,hg,Option.bind_some]
    rw[List.getElem?_set_ne (fun e=>hcc e.symm)]
   ·rw[if_neg ho]
theorem RI{p:Place}(x y:AV)(h:∃b,st.at p=some b):(st.putAt p x).putAt p y=st.putAt p y:=by
 obtain⟨b,h⟩:=h
 simp only[St.at]at h
 cases ha:st.root p.root with
 |none=>simp[ha]at h
 |some a=>
  rw[ha]at h
  simp only[Option.bind_some]at h
  simp only[St.putAt,ha,HO p.root _ ha]
  rw[MT _ _ _ ⟨a,ha⟩,AV.T9 p.path a x y ⟨b,h⟩]
theorem Vs{p:Place}(x:AV){b:AV}(h:st.at p=some b):(st.putAt p x).at p=some x:=by
 simp only[St.at]at h
 cases ha:st.root p.root with
 |none=>simp[ha]at h
 |some a=>
  rw[ha]at h
  simp only[Option.bind_some]at h
  simp only[St.putAt,ha,St.at,HO p.root _ ha,Option.bind_some]
  exact AV.Mq p.path x h
theorem Qj{p:Place}{k:Nat}{xs:List (List AV)}(i c:Nat)(b:AV)(h:st.at p=some (.sl .own k xs)):
  st.putAt ⟨p.root,p.path++[⟨i,k,c⟩]⟩ b=st.putAt p (.sl .own k (xs.modify i (·.modify c (fun _=>b)))):=by
 simp only[St.at]at h
 cases ha:st.root p.root with
 |none=>simp[ha]at h
 |some a=>
  rw[ha]at h
  simp only[Option.bind_some]at h
  simp only[St.putAt,ha]
  rw[AV.N4 p.path i c b h]
structure Ch(tm:Array Value)(lam:Nat→Nat)(Q:Place→Prop)(st:St)(w:World)(st':St)(w':World):Prop where
 refs:∀t s',st'.sl t=.val true s'→∃s,st.sl t=.val true s∧vcells s' (tm.getD t undef)=vcells s (tm.getD t undef)∧∀(j:Nat) (a:AV),s'.cells[j]?=some a→s.cells[j]?=some a∨(∀p v k lo n,a≠.ref p v k lo n)∧∀p v k i c,a≠.adr p v k i c
 vs:st'.vs=st.vs
 hv:st'.hv=st.hv
 next:st'.hp.next=st.hp.next
 pres:∀q k xs,st.at q=some (.sl .own k xs)→Q q→(∃xs',st'.at q=some (.sl .own k xs'))∧conc st' tm w' lam q=conc st tm w lam q
theorem Ch.refl(Q:Place→Prop)(st:St)(w:World):Ch tm lam Q st w st w:=⟨fun _ s' h=>⟨s',h,rfl,fun _ _ h=>.inl h⟩,rfl,rfl,rfl,fun _ _ xs h _=>⟨⟨xs,h⟩,rfl⟩⟩
theorem Ch.trans{Q:Place→Prop}{a b c:St}{u v x:World}(h:Ch tm lam Q a u b v)(k:Ch tm lam Q b v c x):Ch tm lam Q a u c x:=by
 refine⟨fun t s' hs=>?_,k.vs.trans h.vs,k.hv.trans h.hv,k.next.trans h.next,fun q kk xs hq hQ=>?_⟩
 ·obtain⟨s1,h1,e1,h2⟩:=k.refs t s' hs
  obtain⟨s2,h3,e2,h4⟩:=h.refs t s1 h1
  refine⟨s2,h3,e1.trans e2,fun j a hj=>?_⟩
  rcases h2 j a hj with h5|h5
  ·exact h4 j a h5
  ·exact .inr h5
 ·obtain⟨⟨xs1,h1⟩,e1⟩:=h.pres q kk xs hq hQ
  obtain⟨h2,e2⟩:=k.pres q kk xs1 h1 hQ
  exact⟨h2,e2.trans e1⟩
theorem AR.ch{Q:Place→Prop}{st':St}{w':World}(S:Ch tm lam Q st w st' w'){bump:Bool}{r:Root}(hQ:∀q k xs,st.at q=some (.sl .own k xs)→(bump=true→(st'.bump r).ver q.root=st'.ver q.root)→Q q)
  {a:AV} {u:Value} (h:AR st tm w lam a u):AR (if bump then st'.bump r else st') tm w' lam a u:=by
 have live:∀(p:Place) (ver k:Nat) (xs:List (List AV)),ver≤st.ver p.root→ver≤(if bump then st'.bump r else st').ver p.root∧
   (ver=(if bump then st'.bump r else st').ver p.root→ver=st.ver p.root∧(st.at p=some (.sl .own k xs)→(∃xs',(if bump then st'.bump r else st').at p=some (.sl .own k xs'))∧conc (if bump then st'.bump r else st') tm w' lam p=conc st tm w lam p)):=by
  intro p ver k xs hv
  have e:=Dn S.vs S.hv p.root
  cases bump with
  |false=>
   refine⟨by simpa[e]using hv,fun he=>?_⟩
   simp only[Bool.false_eq_true,if_false]at he⊢
   refine⟨by omega,fun hat=>S.pres p k xs hat (hQ p k xs hat (fun h=>nomatch h))⟩
  |true=>
   simp only[if_true]
   have hle:=IZ st' r p.root
   refine⟨by omega,fun he=>⟨by omega,fun hat=>?_⟩⟩
   have h1:=S.pres p k xs hat (hQ p k xs hat (fun _=>by omega))
   have e1:(st'.bump r).at p=st'.at p:=QM (st:=st') [r] p
   have e2:conc (st'.bump r) tm w' lam p=conc st' tm w' lam p:=Nl (st:=st') [r] p
   rw[e1,e2];exact h1
 cases a with
 |ref p ver k lo n=>
  refine⟨(live p ver k [] h.1).1,fun hv=>?_⟩
  obtain⟨xs,v0,k1,k2,k3⟩:=h.2 ((live p ver k [] h.1).2 hv).1
  obtain⟨⟨xs',h4⟩,h5⟩:=((live p ver k xs h.1).2 hv).2 k1
  exact⟨xs',v0,h4,h5.trans k2,k3⟩
 |adr p ver k i c=>
  refine⟨(live p ver k [] h.1).1,fun hv=>?_⟩
  obtain⟨xs,b,off,len,cap,k1,k2,k3⟩:=h.2 ((live p ver k [] h.1).2 hv).1
  obtain⟨⟨xs',h4⟩,h5⟩:=((live p ver k xs h.1).2 hv).2 k1
  exact⟨xs',b,off,len,cap,h4,h5.trans k2,k3⟩
 |_=>exact trivial
theorem Refs.ch{Q:Place→Prop}{st':St}{w':World}(S:Ch tm lam Q st w st' w'){bump:Bool}{r:Root}(hQ:∀q k xs,st.at q=some (.sl .own k xs)→(bump=true→(st'.bump r).ver q.root=st'.ver q.root)→Q q)
  (F:Refs st tm w lam):Refs (if bump then st'.bump r else st') tm w' lam:=by
 intro t s' hs j a u hj hu
 have hs':st'.sl t=.val true s':=by
  cases bump with
  |false=>exact hs
  |true=>rw[←hs];exact congrFun (A1 st' [r]).1.symm t
 obtain⟨s,h1,h2,h3⟩:=S.refs t s' hs'
 rw[h2]at hu
 rcases h3 j a hj with h4|h4
 ·exact(F t s h1 j a u h4 hu).ch S hQ
 ·exact AR.NZ h4.1 h4.2
theorem Ax.part(R:Ax E lam z fp hd st tm w)(i j:Nat)(hij:j≠i){l1 l2:List AV}{m1 m2:List Value}(hh:hd i=(l1++l2,m1++m2))(hl:l1.length=m1.length):
  ∃fp',Ax E lam z fp' (upd (upd hd i (l1,m1)) j (l2,m2)) st tm w:=by
 have h1:=R.keys (.h i)
 simp only[AB,hh]at h1
 obtain⟨n1,n2,f1,f2,hm,hf,r1,r2⟩:=RVs.split l1 h1
 have hn:n1=m1∧n2=m2:=by
  have:=List.append_inj hm (by rw[←hl,r1.length])
  exact⟨this.1.symm,this.2.symm⟩
 obtain⟨rfl,rfl⟩:=hn
 have hnd:=R.fps.nod (.h i)
 rw[hf,List.nodup_append]at hnd
 refine⟨_,R.pass (hd':=upd (upd hd i (l1,n1)) j (l2,n2)) (st':=st) (tm':=tm) (.h i) (.h j) (by simpa using hij) (Moves.refl _ w) rfl rfl ?_ ?_ ?_ hnd.1 hnd.2.1 (fun b hb hb'=>hnd.2.2 b hb b hb' rfl) (fun b hb=>.inl (by rw[hf];simp[hb])) (fun b hb=>.inl (by rw[hf];simp[hb]))⟩
 ·intro κ h3 h4 C x f hK
  refine Iz (fun k hk=>?_) hK
  subst hk
  have a1:k≠i:=fun e=>h3 (by rw[e])
  have a2:k≠j:=fun e=>h4 (by rw[e])
  simp[upd,a1,a2]
 ·have:i≠j:=fun e=>hij e.symm
  simpa only[AB,upd,if_neg this,if_true]using r1
 ·simpa only[AB,upd,if_true]using r2
theorem K9(w:World):∀(p:List Stp) (v:Value) (s:Stp) {b off len cap:Nat},AL w v p=some (.slice (some ⟨b,off,none⟩) len cap)→NL w v (p++[s])=some ⟨b,off+s.i*s.k+s.c,none⟩
 |[],v,s,b,off,len,cap,h=>by simp only[AL,Option.some.injEq]at h;subst h;rfl
 |t::r,v,s,b,off,len,cap,h=>by
  match v with
  |.slice (some ad) n c=>
   simp only[AL]at h
   cases hc:w.cell? ⟨ad.block,ad.off+t.i*t.k+t.c,none⟩with
   |none=>rw[hc]at h;cases h
   |some u=>
    rw[hc]at h
    have ih:=K9 w r u s (show AL w u r=_ from h)
    cases r with
    |nil=>simp only[List.cons_append,List.nil_append,NL,hc,Option.bind_some];exact ih
    |cons t' r'=>simp only[List.cons_append,NL,hc,Option.bind_some];exact ih
  |.slice none n c=>simp[AL]at h
  |.bool _=>simp[AL]at h
  |.int _ _=>simp[AL]at h
  |.float _ _=>simp[AL]at h
  |.complex _ _ _=>simp[AL]at h
  |.string _=>simp[AL]at h
  |.pointer _=>simp[AL]at h
  |.map _=>simp[AL]at h
  |.chan _=>simp[AL]at h
  |.func _ _ _=>simp[AL]at h
  |.nilFunc=>simp[AL]at h
  |.iface _ _=>simp[AL]at h
  |.nilIface=>simp[AL]at h
  |.agg _=>simp[AL]at h
  |.tuple _=>simp[AL]at h
theorem UP:∀(p:List Stp) {a x:AV} (b:AV),p≠[]→a.at p=some x→∃k xs,a.put p b=.sl .own k xs
 |[],_,_,_,h,_=>absurd rfl h
 |s::r,a,x,b,_,h=>by
  cases a with
  |sl τ k xs=>
   cases τ with
   |own=>simp only[AV.put];split<;>exact⟨_,_,rfl⟩
   |_=>simp[AV.at]at h
  |_=>simp[AV.at]at h
theorem Ax.ZI(R:Ax E lam z fp hd st tm w)(j:Nat){p:Place}{k i c:Nat}{xs:List (List AV)}{b':AV}{v':Value}(hh:hd j=([b'],[v']))(hat:st.at p=some (.sl .own k xs))(hi:i<xs.length)(hc:c<k)
  {b off len cap:Nat} (hconc:conc st tm w lam p=some (.slice (some ⟨b,off,none⟩) len cap)):
  ∃u fp',w.cell? ⟨b,off+i*k+c,none⟩=some u∧w.frozen? ⟨b,off+i*k+c,none⟩=false∧
   Ax E lam z fp' (upd hd j ([],[])) (st.putAt p (.sl .own k (xs.set i ((xs.getD i []).set c b')))) tm (w.setCell ⟨b,off+i*k+c,none⟩ v')∧
   Ch tm lam (fun q=>q.root=p.root→Aside (p.path++[⟨i,k,c⟩]) q.path) st w (st.putAt p (.sl .own k (xs.set i ((xs.getD i []).set c b')))) (w.setCell ⟨b,off+i*k+c,none⟩ v')∧
   ∀x∈xs,x.length=k:=by
 obtain⟨u0,f0,hc0,hr0,_⟩:=R.I4 hat
 have hlen:∀x∈xs,x.length=k:=by
  cases hr0 with
  |slNil=>intro x hx;cases hx
  |shr _ _ _ _ _ _ _ _ _ ht=>exact absurd rfl ht
  |shrE _ _ _ _ ht=>exact absurd rfl ht
  |own _ _ _ _ _ _ _ _ _ _ _ _ hk=>exact hk
 have hel:(xs.getD i []).length=k:=Iv hlen hi
 have hcell:(xs[i]?).bind (·[c]?)=some ((xs.getD i [])[c]'(by omega)):=by
  have e1:xs[i]?=some xs[i]:=List.getElem?_eq_getElem hi
  have e2:xs.getD i []=xs[i]:=by rw[List.getD_eq_getElem?_getD,e1];rfl
  rw[e1]
  simp only[Option.bind_some,e2]
  rw[List.getElem?_eq_getElem]
 have hat2:st.at ⟨p.root,p.path++[⟨i,k,c⟩]⟩=some ((xs.getD i [])[c]'(by omega)):=by
  simp only[St.at]at hat⊢
  cases hr:st.root p.root with
  |none=>simp[hr]at hat
  |some a0=>
   rw[hr]at hat
   simp only[Option.bind_some]at hat⊢
   rw[AV.I5,hat]
   simp only[Option.bind_some,AV.at,if_true,hcell]
 obtain⟨loc,u,fp',h1,h2,h3,h4,h5,h6,h7⟩:=R.MD j ⟨p.root,p.path++[⟨i,k,c⟩]⟩ hh hat2 (by simp)
 have hloc:loc=⟨b,off+i*k+c,none⟩:=by
  simp only[conc]at hconc
  cases hrv:AX st tm w lam p.root with
  |none=>rw[hrv]at hconc;cases hconc
  |some rv=>
   rw[hrv]at hconc
   simp only[hrv,Option.bind_some]at h1
   rw[K9 w p.path rv ⟨i,k,c⟩ (show AL w rv p.path=_ from hconc)]at h1
   exact(Option.some.inj h1).symm
 subst hloc
 have hput:st.putAt ⟨p.root,p.path++[⟨i,k,c⟩]⟩ b'=st.putAt p (.sl .own k (xs.set i ((xs.getD i []).set c b'))):=by
  rw[Qj i c b' hat]
  congr 2
  have e1:xs[i]?=some xs[i]:=List.getElem?_eq_getElem hi
  have e2:xs.getD i []=xs[i]:=by rw[List.getD_eq_getElem?_getD,e1];rfl
  rw[e2,List.modify_eq_set]
  rw[e1]
  simp only[Option.getD_some]
  rw[List.modify_eq_set]
 rw[hput]at h5 h7
 refine⟨u,fp',h3,h4,h5,?_,hlen⟩
 refine⟨?_,?_,?_,?_,fun q k' xs' hq hQ=>⟨?_,h7 q k' xs' hq hQ⟩⟩
 ·
  intro t s' hs'
  rw[←hput]at hs'
  have hat3:=hat2
  simp only[St.at]at hat3
  cases hr:st.root p.root with
  |none=>simp[hr]at hat3
  |some a0=>
   rw[hr]at hat3
   simp only[Option.bind_some]at hat3
   obtain⟨k9,xs9,hown⟩:=UP (p.path++[⟨i,k,c⟩]) b' (by simp) hat3
   simp only[St.putAt,hr,hown]at hs'
   cases hpr:p.root with
   |obj o c'=>
    rw[hpr]at hs'
    have:(st.Ar (.obj o c') (.sl .own k9 xs9)).sl=st.sl:=by simp only[St.Ar];split<;>rfl
    rw[this]at hs'
    exact⟨s',hs',rfl,fun _ _ h=>.inl h⟩
   |slot t0 j0=>
    rw[hpr]at hs' hr
    obtain⟨s,hs,hj⟩:=St.Dm hr
    simp only[St.Ar,upd]at hs'
    by_cases ht:t=t0
    ·subst ht
     simp only[if_true,hs,TV.setCell,TV.val.injEq,true_and]at hs'
     subst hs'
     refine⟨s,hs,IY _ _ _ _,fun i' b0 hb=>?_⟩
     rw[SV.Ed s j0 a0 _ hj]at hb
     by_cases hij:i'=j0
     ·subst hij
      refine .inr ?_
      rw[List.getElem?_set]at hb
      simp only[if_true]at hb
      split at hb
      ·simp only[Option.some.injEq]at hb;subst hb;exact⟨by simp,by simp⟩
      ·cases hb
     ·rw[List.getElem?_set_ne (fun e=>hij e.symm)]at hb
      exact .inl hb
    ·rw[if_neg ht]at hs'
     exact⟨s',hs',rfl,fun _ _ h=>.inl h⟩
 ·rw[←hput];simp only[St.putAt];split
  ·exact(FX _ _).1
  ·rfl
 ·rw[←hput];simp only[St.putAt];split
  ·exact(FX _ _).2
  ·rfl
 ·rw[←hput];simp only[St.putAt];split
  ·exact EI _ _
  ·rfl
 ·rw[←hput]
  simp only[St.at]at hq hat2⊢
  cases hr:st.root p.root with
  |none=>simp[hr]at hat2
  |some a0=>
   rw[hr]at hat2
   simp only[Option.bind_some]at hat2
   simp only[St.putAt,hr]
   by_cases hqr:q.root=p.root
   ·rw[hqr]at hq⊢
    rw[hr]at hq
    rw[HO p.root _ hr]
    exact AV.Kw _ q.path b' hat2 hq (hQ hqr)
   ·rw[Gw hr hqr]
    exact⟨xs',hq⟩
theorem RVs.cons_inv{C:Ctx}{w:World}{a:AV}{l:List AV}{m:List Value}{f:List Nat}(h:RVs C w (a::l) m f):∃v m' f1 f2,m=v::m'∧f=f1++f2∧RV C w a v f1∧RVs C w l m' f2:=by
 cases h with
 |cons _ v f1 _ m' f2 ha ht=>exact⟨v,m',f1,f2,rfl,rfl,ha,ht⟩
theorem Ph{a:AV}{v:Value}{l:List AV}{m:List Value}(R:Ax E lam z fp (upd Am 0 (a::l,v::m)) st tm w):∃fp',Ax E lam z fp' (upd (upd Am 0 (l,m)) 1 ([a],[v])) st tm w:=by
 obtain⟨fp1,R1⟩:=R.part 0 1 (by decide) (l1:=[a]) (l2:=l) (m1:=[v]) (m2:=m) (by simp[upd]) rfl
 have R1':Ax E lam z fp1 (upd (upd Am 0 ([a],[v])) 1 (l,m)) st tm w:=by
  have e:upd (upd (upd Am 0 (a::l,v::m)) 0 ([a],[v])) 1 (l,m)=upd (upd Am 0 ([a],[v])) 1 (l,m):=by rw[EW]
  rw[←e];exact R1
 obtain⟨fp2,R2⟩:=R1'.part 0 2 (by decide) (l1:=[]) (l2:=[a]) (m1:=[]) (m2:=[v]) (by simp[upd]) rfl
 obtain⟨fp3,R3⟩:=R2.part 1 0 (by decide) (l1:=[]) (l2:=l) (m1:=[]) (m2:=m) (by simp[upd]) rfl
 obtain⟨fp4,R4⟩:=R3.part 2 1 (by decide) (l1:=[]) (l2:=[a]) (m1:=[]) (m2:=[v]) (by simp[upd]) rfl
 refine⟨fp4,?_⟩
 have e:upd (upd (upd (upd (upd (upd (upd (upd Am 0 ([a],[v])) 1 (l,m)) 0 ([],[])) 2 ([a],[v])) 1 ([],[])) 0 (l,m)) 2 ([],[])) 1 ([a],[v])=upd (upd Am 0 (l,m)) 1 ([a],[v]):=by
  funext j
  by_cases h0:j=0
  ·subst h0;simp[upd]
  ·by_cases h1:j=1
   ·subst h1;simp[upd]
   ·by_cases h2:j=2
    ·subst h2;simp[upd,Am]
    ·simp[upd,h0,h1,h2]
 rw[←e];exact R4
theorem Oh{P:Program}{w:World}{a:Addr}{v u:Value}(hv:v.oneCell'=true)(hc:w.cell? a=some u)(hf:w.frozen? a=false):(store a v).run P w=.ok () (w.setCell a v):=by
 rw[run_store P w a v .plain hv,hc];simp[hf]
theorem Mv(x:List AV×List Value)(y:List AV×List Value):upd (upd (upd Am 0 x) 1 y) 1 ([],[])=upd Am 0 x:=by
 funext j
 by_cases h1:j=1
 ·subst h1;simp[upd,Am]
 ·simp[upd,h1]
theorem Uh{p:Place}{k i:Nat}{b off len cap:Nat}{Q:Place→Prop}(hQp:Q p):∀(l:List AV) (m:List Value) (st:St) (w:World) (fp:Ky→List Nat) (xs:List (List AV)) (c i0 o:Nat),l≠[]→
  Ax E lam z fp (upd Am 0 (l,m)) st tm w→st.at p=some (.sl .own k xs)→i<xs.length→c+l.length≤k→conc st tm w lam p=some (.slice (some ⟨b,off,none⟩) len cap)→o+i0=off+i*k+c→
  (∀j,c≤j→j<c+l.length→∀q,Q q→q.root=p.root→Aside (p.path++[⟨i,k,j⟩]) q.path)→
  ∃w' fp',(storeCells ⟨b,o,none⟩ m i0).run E.P w=.ok () w'∧Ax E lam z fp' Am (st.putAt p (.sl .own k (xs.set i (setCells (xs.getD i []) c l)))) tm w'∧
   Ch tm lam Q st w (st.putAt p (.sl .own k (xs.set i (setCells (xs.getD i []) c l)))) w'
 |[],_,_,_,_,_,_,_,_,hne,_,_,_,_,_,_,_=>absurd rfl hne
 |a::l,m,st,w,fp,xs,c,i0,o,_,R,hat,hi,hcl,hconc,ho,hQ=>by
  have hk0:=R.keys (.h 0)
  simp only[AB,upd,if_true]at hk0
  obtain⟨v,m,_,_,rfl,_,ha1,_⟩:=hk0.cons_inv
  ·have hv1:v.oneCell'=true:=ha1.EJ
   obtain⟨fp1,R1⟩:=Ph R
   simp only[List.length_cons]at hcl
   obtain⟨u,fp2,hcell,hfz,R2,C2,hlen⟩:=R1.ZI 1 (b':=a) (v':=v) (c:=c) (by simp[upd]) hat hi (by omega) hconc
   rw[Mv]at R2
   have hloc:(⟨b,o,none⟩:Addr).add i0=⟨b,off+i*k+c,none⟩:=by
    unfold Addr.add;split
    ·rename_i h0;rw[h0,Nat.add_zero]at ho;rw[ho]
    ·simp only[ho]
   have hst:=Oh (P:=E.P) hv1 hcell hfz
   have C2':Ch tm lam Q st w (st.putAt p (.sl .own k (xs.set i ((xs.getD i []).set c a)))) (w.setCell ⟨b,off+i*k+c,none⟩ v):=
    ⟨C2.refs,C2.vs,C2.hv,C2.next,fun q k' xs' hq hQq=>C2.pres q k' xs' hq (fun hr=>hQ c (Nat.le_refl _) (by simp) q hQq hr)⟩
   have hrun:∀r,(storeCells ⟨b,o,none⟩ m (i0+1)).run E.P (w.setCell ⟨b,off+i*k+c,none⟩ v)=r→(storeCells ⟨b,o,none⟩ (v::m) i0).run E.P w=r:=by
    intro r hr
    simp only[storeCells,hloc,Sem.run_bind,hst,Result.andThen_ok]
    exact hr
   cases l with
   |nil=>
    have hk1:=R2.keys (.h 0)
    simp only[AB,upd,if_true]at hk1
    have hm:m=[]:=by have:=hk1.length;simpa using this.symm
    subst hm
    rw[CH]at R2
    exact⟨_,fp2,hrun _ rfl,R2,C2'⟩
   |cons a2 l2=>
    have hat2:=Vs (st:=st) (p:=p) (.sl .own k (xs.set i ((xs.getD i []).set c a))) hat
    have hconc2:=(C2'.pres p k xs hat hQp).2.trans hconc
    have hget:(xs.set i ((xs.getD i []).set c a)).getD i []=(xs.getD i []).set c a:=by
     rw[List.getD_eq_getElem?_getD,List.getElem?_set];simp[hi]
    obtain⟨w',fp3,h1,h2,h3⟩:=Uh (Q:=Q) hQp (a2::l2) m _ _ fp2 (xs.set i ((xs.getD i []).set c a)) (c+1) (i0+1) o (by simp) R2 hat2 (by simpa using hi) (by simp only[List.length_cons]at hcl⊢;omega) hconc2 (by omega)
     (fun j hj1 hj2=>hQ j (by omega) (by simp only[List.length_cons]at hj2⊢;omega))
    rw[hget]at h2 h3
    rw[RI _ _ ⟨_,hat⟩,List.set_set]at h2 h3
    exact⟨w',fp3,hrun _ h1,h2,C2'.trans h3⟩
theorem Ui{o:Nat}{Q:Place→Prop}:∀(l:List AV) (m:List Value) (st:St) (w:World) (fp:Ky→List Nat) (lo:List AV) (c i0 c0:Nat),l≠[]→
  Ax E lam z fp (upd Am 0 (l,m)) st tm w→st.hp.get o=some lo→c+l.length≤lo.length→c0+i0=c→
  (∀j,c≤j→j<c+l.length→∀q,Q q→q.root≠.obj o j)→
  ∃w' fp',(storeCells ⟨lam o,c0,none⟩ m i0).run E.P w=.ok () w'∧Ax E lam z fp' Am ⟨st.sl,st.hp.set o (setCells lo c l),st.vs,st.hv⟩ tm w'∧
   Ch tm lam Q st w ⟨st.sl,st.hp.set o (setCells lo c l),st.vs,st.hv⟩ w'
 |[],_,_,_,_,_,_,_,_,hne,_,_,_,_,_=>absurd rfl hne
 |a::l,m,st,w,fp,lo,c,i0,c0,_,R,hg,hcl,ho,hQ=>by
  have hk0:=R.keys (.h 0)
  simp only[AB,upd,if_true]at hk0
  obtain⟨v,m,_,_,rfl,_,ha1,_⟩:=hk0.cons_inv
  ·have hv1:v.oneCell'=true:=ha1.EJ
   obtain⟨fp1,R1⟩:=Ph R
   simp only[List.length_cons]at hcl
   have hroot:st.root (.obj o c)=some (lo[c]'(by omega)):=by
    simp only[St.root,hg,Option.bind_some];exact List.getElem?_eq_getElem _
   obtain⟨u,fp2,hcell,hfz,R2,_,hcon⟩:=R1.putObj 1 o c (b':=a) (v':=v) (by simp[upd]) hroot
   rw[Mv]at R2
   have hset:st.Ar (.obj o c) a=⟨st.sl,st.hp.set o (lo.set c a),st.vs,st.hv⟩:=by simp only[St.Ar,hg]
   rw[hset]at R2 hcon
   have hloc:(⟨lam o,c0,none⟩:Addr).add i0=⟨lam o,c,none⟩:=by
    unfold Addr.add;split
    ·rename_i h0;rw[h0,Nat.add_zero]at ho;rw[ho]
    ·simp only[ho]
   have hst:=Oh (P:=E.P) hv1 hcell hfz
   have C2':Ch tm lam Q st w ⟨st.sl,st.hp.set o (lo.set c a),st.vs,st.hv⟩ (w.setCell ⟨lam o,c,none⟩ v):=by
    refine⟨fun _ s' h=>⟨s',h,rfl,fun _ _ h=>.inl h⟩,rfl,rfl,rfl,fun q k' xs' hq hQq=>?_⟩
    have hne:=hQ c (Nat.le_refl _) (by simp) q hQq
    refine⟨⟨xs',?_⟩,hcon q k' xs' hq hne⟩
    rw[←hset]
    simp only[St.at]at hq⊢
    rw[Gw hroot hne];exact hq
   have hrun:∀r,(storeCells ⟨lam o,c0,none⟩ m (i0+1)).run E.P (w.setCell ⟨lam o,c,none⟩ v)=r→(storeCells ⟨lam o,c0,none⟩ (v::m) i0).run E.P w=r:=by
    intro r hr
    simp only[storeCells,hloc,Sem.run_bind,hst,Result.andThen_ok]
    exact hr
   cases l with
   |nil=>
    have hk1:=R2.keys (.h 0)
    simp only[AB,upd,if_true]at hk1
    have hm:m=[]:=by have:=hk1.length;simpa using this.symm
    subst hm
    rw[CH]at R2
    exact⟨_,fp2,hrun _ rfl,R2,C2'⟩
   |cons a2 l2=>
    obtain⟨w',fp3,h1,h2,h3⟩:=Ui (Q:=Q) (a2::l2) m _ _ fp2 (lo.set c a) (c+1) (i0+1) c0 (by simp) R2 (by simp[Heap.set,upd]) (by simp only[List.length_cons,List.length_set]at hcl⊢;omega) (by omega)
     (fun j hj1 hj2=>hQ j (by omega) (by simp only[List.length_cons]at hj2⊢;omega))
    have e:((st.hp.set o (lo.set c a)).set o (setCells (lo.set c a) (c+1) (a2::l2)))=st.hp.set o (setCells lo c (a::a2::l2)):=by
     simp only[Heap.set,EW,VS.setCells]
    simp only[e]at h2 h3
    exact⟨w',fp3,hrun _ h1,h2,C2'.trans h3⟩
end
end Go.VS
namespace Go.VS
section
variable{E:Env}{lam:Nat→Nat}{z:Nat→Prop}{fp:Ky→List Nat}{hd:Hands}{st:St}{tm:Array Value}{w:World}{ds:List Deferred}
theorem Mw{l:List AV}{c n j:Nat}{a:AV}(h:l[j]?=some a)(ha:a.Br=true)(h1:c≤j)(h2:j<c+n):((l.drop c).take n).any AV.Br=true:=by
 rw[List.any_eq_true]
 refine⟨a,List.mem_of_getElem? (i:=j -c) ?_,ha⟩
 rw[List.getElem?_take,if_pos (by omega),List.getElem?_drop,show c+(j -c)=j from by omega]
 exact h
theorem Mp{a:AV}{r:List Stp}{k:Nat}{xs:List (List AV)}(h:a.at r=some (.sl .own k xs)):a.Br=true:=by
 cases r with
 |nil=>simp only[AV.at,Option.some.injEq]at h;subst h;rfl
 |cons s r=>
  cases a with
  |sl τ k xs=>cases τ<;>first|rfl|simp[AV.at]at h
  |_=>simp[AV.at]at h
theorem Py(tm:Array Value)(v:Value):Hu tm none v=tm:=rfl
theorem XZ(R:Ax E lam z fp Am st tm w)(F:Refs st tm w lam){o:Oper}{t:TypeId}{xa xv:Operand}{a b:Opd}{n:Nat}(ho:o.op=.store t xa xv)(hdst:o.dst=none)(ha:AA E.P xa=some a)(hb:AA E.P xv=some b)
  (hn:sizeOf? E.P t=some n) (hn0:0<n) {st':St} (h:(st.Fv o.dst (.store n a b)).holds (·=st')):OpW E tm ds w o st':=by
 simp only[St.Fv,M.Aa]at h
 rw[M.Aw]at h
 obtain⟨⟨s,st1⟩,h1,h⟩:=h
 obtain⟨fp',T⟩:=Qw R F hb h1 ds
 dsimp only at h
 split at h
 case isFalse=>exact h.elim
 rename_i hsn
 rw[M.Aa]at h
 obtain⟨c,h2,h⟩:=Ba h
 obtain⟨hu,hur⟩:=CW T.rel T.refs rfl ha h2 ds
 have hk:=T.rel.keys (.h 0)
 simp only[AB,upd,if_true]at hk
 have hvc:=GG (T.fits _ _ _ hk)
 generalize hva:Act.eval ⟨tm,ds⟩ xa=ua at hu hur
 generalize hvv:Act.eval ⟨tm,ds⟩ xv=uv at*
 have hsize:uv.cells.size=n:=by rw[←Array.length_toList,hvc,←hk.length,hsn]
 have hne:s.cells≠[]:=by intro e;rw[e]at hsn;simp at hsn;omega
 have hrun:∀(ad:Addr) (w':World),ua=.pointer (some ad)→(storeCells ad (vcells s uv) 0).run E.P w=.ok () w'→(execOp (Act.eval ⟨tm,ds⟩) o).run E.P w=.ok .skip w':=by
  intro ad w' e1 hs
  simp only[execOp,ho,hva,hvv,e1,Instr.storeAt,Instr.sureAddr,storeVar,Sem.run_bind,Sem.run_pure,Result.andThen_ok,Jk hn,hsize]
  simp only[ne_eq,not_true_eq_false,if_false,hvc,hs,Result.andThen_ok]
 split at h
 ·
  rename_i o' c'
  cases hg:st1.hp.get o' with
  |none=>simp only[hg]at h;exact h.elim
  |some l=>
   simp only[hg,M.Aa,M.Aj]at h
   obtain⟨hcn,h⟩:=h
   rw[M.Ad]at h
   have hQ:∀j,c'≤j→j<c'+s.cells.length→∀q:Place,(∀j,c'≤j→j<c'+n→q.root≠.obj o' j)→q.root≠.obj o' j:=fun j h1 h2 q hq=>hq j h1 (by rw[←hsn];exact h2)
   obtain⟨w',fp2,k1,k2,k3⟩:=Ui (o:=o') (Q:=fun q=>∀j,c'≤j→j<c'+n→q.root≠.obj o' j) s.cells (vcells s uv) st1 w fp' l c' 0 c' hne T.rel hg (by rw[hsn];exact hcn) (by simp) hQ
   cases hu with
   |ptr _ _ _=>
    refine⟨.skip,w',hrun _ w' rfl k1,.inr ⟨rfl,?_⟩⟩
    rw[hdst,Py]
    have hF:=Refs.ch (bump:=((l.drop c').take n).any AV.Br) (r:=.obj o' c') k3 (by
     intro q k xs hq hb j hj1 hj2 hr
     cases hbool:((l.drop c').take n).any AV.Br with
     |true=>
      have:=hb hbool
      rw[hr]at this
      simp[St.bump,St.ver]at this
     |false=>
      simp only[St.at,hr]at hq
      cases hro:st1.root (.obj o' j)with
      |none=>simp[hro]at hq
      |some a0=>
       rw[hro]at hq
       simp only[Option.bind_some]at hq
       obtain⟨l2,hg2,hl2⟩:=St.Di hro
       rw[hg]at hg2
       cases hg2
       rw[Mw hl2 (Mp hq) hj1 hj2]at hbool
       cases hbool) T.refs
    subst h
    refine⟨lam,z,fp2,?_,hF⟩
    split
    ·exact k2.bumps [.obj o' c']
    ·exact k2
 ·
  rename_i p v k i c'
  split at h
  ·rename_i k' xs hat
   simp only[M.Aa,M.Aj]at h
   obtain⟨hv,hkk,hi,hcn,h⟩:=h
   subst hkk
   rw[M.Ad]at h
   obtain⟨xs',bk,off,len,cap,q1,q2,q3⟩:=(hur.Bk).2 hv
   rw[hat]at q1
   cases q1
   have hQp:(fun q:Place=>q.root=p.root→∀j,c'≤j→j<c'+n→Aside (p.path++[⟨i,k,j⟩]) q.path) p:=by
    intro _ j _ _ ⟨r,hr⟩
    have:=congrArg List.length hr
    simp at this
   obtain⟨w',fp2,k1,k2,k3⟩:=Uh (p:=p) (k:=k) (i:=i) (Q:=fun q:Place=>q.root=p.root→∀j,c'≤j→j<c'+n→Aside (p.path++[⟨i,k,j⟩]) q.path) hQp s.cells (vcells s uv) st1 w fp' xs c' 0 (off+i*k+c') hne T.rel hat hi
    (by rw[hsn];exact hcn) q2 (by simp) (fun j h1 h2 q hq hr=>hq hr j h1 (by rw[←hsn];exact h2))
   refine⟨.skip,w',hrun _ w' q3 k1,.inr ⟨rfl,?_⟩⟩
   rw[hdst,Py]
   have hF:=Refs.ch (bump:=(((xs.getD i []).drop c').take n).any AV.Br) (r:=p.root) k3 (by
    intro q k0 xs0 hq hb hr j hj1 hj2 ⟨r,hpath⟩
    cases hbool:(((xs.getD i []).drop c').take n).any AV.Br with
    |true=>
     have h9:=hb hbool
     rw[hr]at h9
     have h8:=LD (st1.putAt p (.sl .own k (xs.set i (setCells (xs.getD i []) c' s.cells)))) p.root [p.root] (by simp)
     simp only[St.bumps]at h8
     omega
    |false=>
     have hat':=hat
     simp only[St.at,hr,hpath]at hq
     simp only[St.at]at hat'
     cases hro:st1.root p.root with
     |none=>simp[hro]at hq
     |some a0=>
      rw[hro]at hq hat'
      simp only[Option.bind_some]at hq hat'
      rw[List.append_assoc,AV.I5,hat']at hq
      simp only[Option.bind_some,List.cons_append,List.nil_append,AV.at,if_true]at hq
      cases hx:(xs[i]?).bind (·[j]?)with
      |none=>rw[hx]at hq;cases hq
      |some a1=>
       rw[hx]at hq
       have e1:xs[i]?=some xs[i]:=List.getElem?_eq_getElem hi
       have e2:xs.getD i []=xs[i]:=by rw[List.getD_eq_getElem?_getD,e1];rfl
       rw[e1]at hx
       rw[e2,Mw (show xs[i][j]?=some a1 from hx) (Mp (show a1.at r=_ from hq)) hj1 hj2]at hbool
       cases hbool) T.refs
   subst h
   refine⟨lam,z,fp2,?_,hF⟩
   split
   ·exact k2.bumps [p.root]
   ·exact k2
  ·exact h.elim
 ·exact h.elim
end
end Go.VS
namespace Go.VS
section
variable{E:Env}{lam:Nat→Nat}{z:Nat→Prop}{fp:Ky→List Nat}{hd:Hands}{st:St}{tm:Array Value}{w:World}{ds:List Deferred}
structure X1(E:Env)(lam:Nat→Nat)(z:Nat→Prop)(mem:Bool)(st:St)(tm:Array Value)(w:World)(la:List AV)(lv:List Value)(s:SV)(v:Value)(st1:St)(fp:Ky→List Nat):Prop where
 rel:Ax E lam z fp (upd Am 0 (la++s.cells,lv++vcells s v)) st1 tm w
 refs:Refs st1 tm w lam
 own:CS st1 tm w lam s v
 fits:Fits s v
 next:st1.hp.next=st.hp.next
 clean:mem=true→∀a∈s.cells,(∀p v k lo n,a≠.ref p v k lo n)∧∀p v k i c,a≠.adr p v k i c
 len:s.cells.length=(vcells s v).length
 cells:v.cells.toList=vcells s v
theorem Mj{la:List AV}{lv:List Value}(R:Ax E lam z fp (upd Am 0 (la,lv)) st tm w)(F:Refs st tm w lam){mem:Bool}{o:Operand}{x:Opd}(ho:AA E.P o=some x){s:SV}{st1:St}(h:(st.take mem x).holds (·=(s,st1)))(ds:List Deferred):
  ∃fp',X1 E lam z mem st tm w la lv s (Act.eval ⟨tm,ds⟩ o) st1 fp':=by
 unfold St.take at h
 simp only[M.Aa]at h
 rw[M.Aw]at h
 obtain⟨s0,h0,h⟩:=h
 rw[M.Aw]at h
 obtain⟨⟨l,st',rs⟩,h1,h⟩:=h
 rw[M.Ad]at h
 cases h
 obtain⟨hu,hr⟩:=CW R F rfl ho h0 ds
 obtain⟨fp',R1,S1,hl,hc,hm⟩:=FY st mem s0.cells (vcells s0 (Act.eval ⟨tm,ds⟩ o)) st [] la lv fp l st' rs R (Sh.refl st) hu.cells hr h1
 obtain⟨hf1,hf2,hf3⟩:=hu.fits hl
 simp only[List.nil_append]at S1
 refine⟨fp',⟨?_,F.shift S1,?_,hf1,?_,?_,?_,?_⟩⟩
 ·rw[hf2,hf3];exact R1.bumps rs
 ·intro j a u hj hu'
  rw[hf2]at hj
  rw[hf3]at hu'
  exact(hc j a u hj hu').shift S1
 ·rw[(A1 st' rs).2];exact S1.next
 ·intro hmem a ha;rw[hf2]at ha;exact hm hmem a ha
 ·rw[hf2,hf3,hl];exact hu.cells.length
 ·rw[hf3];exact GG hu
theorem Ax.hop{A O B N:List AV}{A' O' B' N':List Value}(R:Ax E lam z fp (upd Am 0 (A++O++B++N,A'++O'++B'++N')) st tm w)
  (h1:A.length=A'.length) (h2:O.length=O'.length) (h3:B.length=B'.length):∃fp',Ax E lam z fp' (upd Am 0 (A++N++B,A'++N'++B')) st tm w:=by
 have hk:=R.keys (.h 0)
 simp only[AB,upd,if_true,List.append_assoc]at hk
 obtain⟨m1,m2,f1,f2,e1,ef1,r1,hk⟩:=RVs.split A hk
 obtain⟨rfl,q1⟩:=List.append_inj e1.symm (r1.length.symm.trans h1)
 subst q1
 obtain⟨m3,m4,f3,f4,e2,ef2,r2,hk⟩:=RVs.split O hk
 obtain⟨rfl,q2⟩:=List.append_inj e2.symm (r2.length.symm.trans h2)
 subst q2
 obtain⟨m5,m6,f5,f6,e3,ef3,r3,r4⟩:=RVs.split B hk
 obtain⟨rfl,q3⟩:=List.append_inj e3.symm (r3.length.symm.trans h3)
 subst q3
 have hn:=R.fps.nod (.h 0)
 have hfp:fp (.h 0)=f1++(f3++(f5++f6)):=by rw[ef1,ef2,ef3]
 rw[hfp]at hn
 have R2:=R.turn 0 (Moves.refl _ w) (l:=A++N++B) (m:=m1++m6++m5) (f:=f1++f6++f5) ((r1.append r4).append r3)
  (by
   rw[List.nodup_append]at hn
   obtain⟨n1,n2,n3⟩:=hn
   rw[List.nodup_append]at n2
   obtain⟨_,n5,_⟩:=n2
   rw[List.nodup_append]at n5
   obtain⟨n7,n8,n9⟩:=n5
   rw[List.append_assoc,List.nodup_append,List.nodup_append]
   refine⟨n1,⟨n8,n7,fun a ha b hb e=>n9 b hb a ha e.symm⟩,fun a ha b hb=>n3 a ha b ?_⟩
   rw[List.mem_append]at hb
   simp only[List.mem_append]
   rcases hb with hb|hb<;>simp[hb])
  (fun b hb=>.inl (by rw[hfp];simp only[List.mem_append]at hb⊢;rcases hb with(hb|hb)|hb<;>simp[hb]))
 rw[EW]at R2
 exact⟨_,R2⟩
theorem Lu{α:Type}:∀(N A O B:List α),O.length=N.length→setCells (A++O++B) A.length N=A++N++B
 |[],A,O,B,h=>by
  have:O=[]:=List.eq_nil_of_length_eq_zero h
  subst this
  simp[VS.setCells]
 |n::N,A,o::O,B,h=>by
  simp only[VS.setCells]
  have e:(A++o::O++B).set A.length n=(A++[n])++O++B:=by simp
  have ih:=Lu N (A++[n]) O B (by simpa using h)
  rw[List.length_append,List.length_singleton]at ih
  rw[e,ih]
  simp
theorem Ns(xs:List (List AV))(i:Nat)(hi:i<xs.length)(y:List AV):(xs.set i y).flatten=(xs.take i).flatten++y++(xs.drop (i+1)).flatten:=by
 rw[F7 xs i xs[i] y (List.getElem?_eq_getElem hi)]
 simp
theorem SA(xs:List (List AV))(i:Nat)(hi:i<xs.length):xs.flatten=(xs.take i).flatten++xs[i]++(xs.drop (i+1)).flatten:=by
 rw[←Ns xs i hi xs[i],List.set_getElem_self]
theorem RC{k len:Nat}:∀(ps:List (Nat×Operand)) (l:List (Nat×Opd)) (xs xs':List (List AV)) (arr:Array Value) (st st':St) (fp:Ky→List Nat),
  I7 E.P len ps=some l→(DY st k xs l).holds (·=(xs',st'))→Ax E lam z fp (upd Am 0 (xs.flatten,arr.toList)) st tm w→Refs st tm w lam→(∀x∈xs,x.length=k)→xs.length=len→
  ∃arr' fp',Instr.fill (fun i=>some (i*k,k)) arr (ps.map fun(p:Nat×Operand)=>(p.1,Act.eval ⟨tm,ds⟩ p.2))=some arr'∧Ax E lam z fp' (upd Am 0 (xs'.flatten,arr'.toList)) st' tm w∧
   Refs st' tm w lam∧(∀x∈xs',x.length=k)∧xs'.length=len
 |[],l,xs,xs',arr,st,st',fp,hp,h,R,F,hk,hlen=>by
  simp only[I7,Option.some.injEq]at hp
  subst hp
  simp only[DY]at h
  rw[M.Ad]at h
  cases h
  exact⟨arr,fp,rfl,R,F,hk,hlen⟩
 |(i,x)::ps,l,xs,xs',arr,st,st',fp,hp,h,R,F,hk,hlen=>by
  simp only[I7]at hp
  split at hp
  case h_2=>cases hp
  rename_i y l' hy hl'
  split at hp
  case isFalse=>cases hp
  rename_i hi
  simp only[Option.some.injEq]at hp
  subst hp
  simp only[DY,M.Aa]at h
  rw[M.Aw]at h
  obtain⟨⟨s,st1⟩,h0,h⟩:=h
  obtain⟨fp1,T⟩:=Mj R F hy h0 ds
  dsimp only at h
  split at h
  case isFalse=>exact h.elim
  rename_i hsk
  have hil:i<xs.length:=by omega
  have hfl:=SA xs i hil
  have hsz:xs.flatten.length=arr.toList.length:=by
   have:=R.keys (.h 0)
   simp only[AB,upd,if_true]at this
   exact this.length
  have hak:((xs.take i).flatten).length=i*k:=by
   rw[BO k _ (fun x hx=>hk x (List.mem_of_mem_take hx)),List.length_take];congr 1;omega
  have hxk:xs[i].length=k:=hk _ (List.getElem_mem hil)
  have hsz2:i*k+k≤arr.toList.length:=by
   rw[←hsz,hfl];simp only[List.length_append];omega
  have harr:arr.toList=arr.toList.take (i*k)++(arr.toList.drop (i*k)).take k++arr.toList.drop (i*k+k):=by
   rw[List.append_assoc,←List.drop_drop,List.take_append_drop,List.take_append_drop]
  have T1:=T.rel
  rw[hfl,harr]at T1
  obtain⟨fp2,R2⟩:=T1.hop (by rw[hak];simp only[List.length_take];omega) (by rw[hxk];simp only[List.length_take,List.length_drop];omega)
   (by
    have h9:=hsz
    rw[hfl]at h9
    simp only[List.length_append]at h9
    simp only[List.length_drop];omega)
  rw[←Ns xs i hil]at R2
  have hvl:(vcells s (Act.eval ⟨tm,ds⟩ x)).length=k:=by rw[←T.len];exact hsk
  have hset:VS.setCells arr.toList (i*k) (vcells s (Act.eval ⟨tm,ds⟩ x))=arr.toList.take (i*k)++vcells s (Act.eval ⟨tm,ds⟩ x)++arr.toList.drop (i*k+k):=by
   have h8:=Lu (vcells s (Act.eval ⟨tm,ds⟩ x)) (arr.toList.take (i*k)) ((arr.toList.drop (i*k)).take k) (arr.toList.drop (i*k+k)) (by simp only[List.length_take,List.length_drop];omega)
   rw[←harr]at h8
   have:(arr.toList.take (i*k)).length=i*k:=by simp only[List.length_take];omega
   rw[this]at h8
   exact h8
  have hfold:(((Act.eval ⟨tm,ds⟩ x).cells.zipIdx.foldl (fun cs (c,j)=>cs.setIfInBounds (i*k+j) c) arr)).toList=VS.setCells arr.toList (i*k) (vcells s (Act.eval ⟨tm,ds⟩ x)):=by
   rw[←Array.foldl_toList,Array.toList_zipIdx,T.cells]
   exact JT _ arr (i*k) 0
  rw[←hset,←hfold]at R2
  obtain⟨arr',fp',ha',R3,F3,hk3,hl3⟩:=RC ps l' _ xs' _ st1 st' _ hl' h R2 T.refs (by
   intro x hx
   rcases List.mem_or_eq_of_mem_set hx with hx|rfl
   ·exact hk x hx
   ·exact hsk) (by simpa using hlen)
  refine⟨arr',fp',?_,R3,F3,hk3,hl3⟩
  simp only[List.map_cons,Instr.fill]
  have hvs:(Act.eval ⟨tm,ds⟩ x).cells.size=k:=by rw[←Array.length_toList,T.cells];exact hvl
  rw[if_neg (by rw[hvs];simp only[Array.length_toList]at hsz2;simp;omega)]
  exact ha'
theorem Rel.Rq{xs:List (List AV)}{vs:List Value}{w':World}{v:Value}{k:Nat}(R:Ax E lam z fp (upd Am 0 (xs.flatten,vs)) st tm w)
  (hm:Moves (·∈fp (.h 0)) w w') {f:List Nat} (hv:RV (ctx E lam z st.hp.next) w' (.sl .own k xs) v f) (hn:f.Nodup) (hf:∀b,b∈f→b∈fp (.h 0)∨(w.heap.size≤b∧b<w'.heap.size))
  (hF:Refs st tm w' lam) {d:Nat} (hd:d<E.nt):Rel E (st.set d (V (.sl .own k xs))) (tm.setIfInBounds d v) w':=by
 have R1:=R.turn 0 hm (l:=[.sl .own k xs]) (m:=[v]) (RVs.one hv) hn hf
 rw[EW]at R1
 have R2:=R1.Jj 0 d (V (.sl .own k xs)) v hd ⟨fun _=>by simp only[RSV,A8];exact hv,fun h=>nomatch h⟩ (if(st.sl d).BV then upd st.vs d (st.vs d+1)else st.vs) st.hv
 rw[EW,CH]at R2
 refine⟨lam,z,_,R2,hF.set (by rw[R.tsz];exact hd) ?_⟩
 intro j a u hj hu
 cases j with
 |zero=>simp[SV.cells]at hj;subst hj;exact trivial
 |succ j=>simp[SV.cells]at hj
theorem Vf(R:Ax E lam z fp Am st tm w)(F:Refs st tm w lam){o:Oper}{t e:TypeId}{len k:Nat}{ps:Array (Nat×Operand)}{l:List (Nat×Opd)}{zs:List Value}{d:Nat}(ho:o.op=.buildSlice t len ps)
  (ht:E.P.underlying t=some (.slice e)) (hk:sizeOf? E.P e=some k) (hz:zeroOf? E.P e=some zs) (hzk:zs.length=k∧0<k∧len*k≤2^24) (hl:I7 E.P len ps.toList=some l) (hdst:o.dst=some d) (hd:d<E.nt) {st':St}
  (h:(st.Fv o.dst (.buildSl k zs len l)).holds (·=st')):OpW E tm ds w o st':=by
 simp only[St.Fv,hdst,M.Aa]at h
 rw[M.Aw]at h
 obtain⟨⟨xs,st1⟩,h1,h⟩:=h
 rw[M.Ad]at h
 subst h
 obtain⟨i,zv,hi,hiz,hzl,hza⟩:=HB hz
 simp only[sizeOf?,hi,Option.map_some,Option.some.injEq]at hk
 have hsz:zv.cells.size=k:=by rw[←Array.length_toList,hzl];exact hzk.1
 have hmc:(madeCells zv.cells (len*k)).toList=(List.replicate len zs).flatten:=by
  rw[←hsz,La _ (by omega),hzl]
 obtain⟨fp0,R0⟩:=R.lits (List.replicate len zs).flatten (Dq _ _ hza _)
 rw[←EM,←hmc]at R0
 obtain⟨arr',fp',ha',R1,F1,hk1,hl1⟩:=RC (ds:=ds) ps.toList l _ xs _ st st1 fp0 hl h1 R0 F (fun x hx=>by rw[List.eq_of_mem_replicate hx];simp[hzk.1]) (by simp)
 have hkx:=R1.keys (.h 0)
 simp only[AB,upd,if_true]at hkx
 have hasz:arr'.toList.length=xs.length*k:=by rw[←hkx.length,BO k xs hk1]
 have hrun:(execOp (Act.eval ⟨tm,ds⟩) o).run E.P w=.ok (.value (.slice (some ⟨w.heap.size,0,none⟩) len len)) (w.alloc (.cells arr' e)):=by
  have e1:(ps.map fun(i,x)=>(i,Act.eval ⟨tm,ds⟩ x)).toList=ps.toList.map fun(p:Nat×Operand)=>(p.1,Act.eval ⟨tm,ds⟩ p.2):=by rw[Array.toList_map]
  have hno:¬(len*k>2^24):=by omega
  by_cases h0:len*k=0
  ·have hmz:madeCells zv.cells (len*k)=(Array.range (len*k)).map (fun j=>(#[]:Array Value)[j%(#[]:Array Value).size]!):=by rw[h0];simp[madeCells]
   rw[hmz]at ha'
   simp[execOp,ho,Instr.buildSlice,run_underlying ht,sizeOf,typeInfo,hi,hk,h0,newRow]
   rw[h0]at ha'
   simp at ha'
   simp[ha']
  ·simp only[madeCells]at ha'
   simp only[execOp,ho,Instr.buildSlice,run_underlying ht,sizeOf,typeInfo,hi,hk,zeroValue,hiz,newRow,Sem.run_bind,Sem.run_pure,Result.andThen_ok,if_neg hno,if_neg h0]
   simp[e1,ha',zeroValue,typeInfo,hi,hiz,hk,hno,h0]
 refine⟨_,_,hrun,.inl ⟨_,rfl,?_⟩⟩
 rw[hdst]
 have hfr:=hkx.frame (w':=w.alloc (.cells arr' e)) (Ctx.Le.refl _) (fun b hb=>heap_alloc_old w _ (R1.Ty hb)) (fun b hb=>heap_alloc_old w _ (R1.fps.ok _ b hb).1)
 have hcells:((arr'.toList.drop 0).take (xs.length*k))=arr'.toList:=by rw[List.drop_zero,←hasz,List.take_length]
 have hv:=RV.own (C:=ctx E lam z st1.hp.next) (w:=w.alloc (.cells arr' e)) k xs w.heap.size 0 len arr' e _ (heap_alloc_new w _) (by rw[←hl1,←hasz];simp) (by omega)
  (by have:len≤len*k:=(Nat.le_mul_of_pos_right _ hzk.2.1);simp only[maxLen];omega) hk1 (by rw[hcells];exact hfr)
 rw[hl1]at hv
 refine Rel.Rq R1 (Moves.alloc _ _ _) hv ?_ ?_ (F1.grow R1 (Moves.alloc _ _ _)) hd
 ·rw[List.nodup_cons]
  exact⟨fun hm=>by have:=(R1.fps.ok _ _ hm).1;omega,R1.fps.nod _⟩
 ·intro b hb
  rcases List.mem_cons.1 hb with rfl|hb
  ·exact .inr ⟨Nat.le_refl _,by simp⟩
  ·exact .inl hb
end
end Go.VS
namespace Go.VS
theorem RVs.Rw{C:Ctx}{w:World}:∀{l:List AV} {m:List Value} {f:List Nat},RVs C w l m f→∀u∈m,u.oneCell'=true
 |[],[],_,_=>fun _ h=>nomatch h
 |[],_::_,_,h=>by have:=h.length;simp at this
 |_::_,[],_,h=>by have:=h.length;simp at this
 |a::l,v::m,f,h=>by
  cases h with
  |cons _ _ _ _ _ _ h t=>
   intro u hu
   rcases List.mem_cons.1 hu with rfl|hu
   ·exact h.EJ
   ·exact RVs.Rw t u hu
theorem Ig(b off j:Nat):(⟨b,off,none⟩:Addr).add j=⟨b,off+j,none⟩:=by unfold Addr.add;split<;>simp_all
def Src(w:World)(k m:Nat)(x:Value)(news:List Value):Prop:=
 (x=.slice none 0 0∧m=0∧news=[])∨∃a c,x=.slice (some a) m c∧news.length=m*k∧∀j u,news[j]?=some u→w.cell? (a.add j)=some u
theorem Src.len{w:World}{k m:Nat}{x:Value}{news:List Value}(h:Src w k m x news):news.length=m*k∧∀P w',(Builtin.lenOf x).run P w'=.ok m w':=by
 rcases h with⟨rfl,rfl,rfl⟩|⟨a,c,rfl,h,_⟩
 ·exact⟨by simp,fun _ _=>rfl⟩
 ·exact⟨h,fun _ _=>rfl⟩
theorem Src.read{w:World}{k m:Nat}{x:Value}{news:List Value}(h:Src w k m x news){P:Program}{w':World}(hw:w'.heap=w.heap):(Builtin.firstCells k m x).run P w'=.ok news.toArray w':=by
 rcases h with⟨rfl,rfl,rfl⟩|⟨a,c,rfl,h,hc⟩
 ·exact run_firstCells_none w' k 0 0 0
 ·exact run_firstCells_some w' k m a m c news h (fun j u hj=>by have:=hc j u hj;simpa[World.cell?,hw]using this)
theorem XJ{P:Program}{w:World}{t u ty e e2:TypeId}{i:TypeInfo}{zv:Value}(ht:P.underlying t=some (.slice e))(hu:P.underlying u=some (.slice e2))(hi:P.info? e=some i)(hz:i.zero=some zv)
  (hzs:zv.cells.size=i.size) {v x:Value} {n m:Nat} {olds news:List Value} (hx:Src w i.size m x news) (h1:∀u∈news,u.oneCell'=true)
  (hv:(v=.slice none 0 0∧n=0∧olds=[])∨∃g off cap cs e',v=.slice (some ⟨g,off,none⟩) n cap∧w.heap[g]?=some (.cells cs e' (0,0))∧off+cap*i.size≤cs.size∧n≤cap∧cap≤maxLen∧olds=(cs.toList.drop off).take (n*i.size))
  (h63:n+m≤9223372036854775807) (hbytes:(n+m)*i.bytes≤140737488355328):
  ∃v' w',(Builtin.append_ #[t,u] ty #[v,x]).run P w=.ok v' w'∧
   ((v'=.slice none 0 0∧w'=w∧n=0∧m=0)∨
    (∃g off cap cs e',v=.slice (some ⟨g,off,none⟩) n cap∧w.heap[g]?=some (.cells cs e' (0,0))∧off+cap*i.size≤cs.size∧n+m≤cap∧cap≤maxLen∧olds=(cs.toList.drop off).take (n*i.size)∧
     v'=.slice (some ⟨g,off,none⟩) (n+m) cap∧w'=w.setRow g (cs.toList.take (off+n*i.size)++news++cs.toList.drop (off+n*i.size+news.length)).toArray)∨
    (∃cap rest,n+m≤cap∧cap≤maxLen∧(olds++news++rest:List Value).length=cap*i.size∧v'=.slice (some ⟨w.heap.size,0,none⟩) (n+m) cap∧w'=w.drew.alloc (.cells (olds++news++rest:List Value).toArray e))):=by
 obtain⟨hl,hlen⟩:=hx.len
 have hge:=grownCap_ge w (n+m)
 have h63':¬(9223372036854775807<((n:Int)+(m:Int))):=by omega
 rcases hv with⟨rfl,rfl,rfl⟩|⟨g,off,cap,cs,e',rfl,hg,hs,hnc,hcm,rfl⟩
 ·by_cases hm:m=0
  ·subst hm
   have hn:news=[]:=List.eq_nil_of_length_eq_zero (by simpa using hl)
   subst hn
   refine⟨.slice none 0 0,w,?_,.inl ⟨rfl,rfl,rfl,rfl⟩⟩
   have hr:=hx.read (P:=P) (w':=w) rfl
   simp[Builtin.append_,run_underlying ht,run_underlying hu,sizeOf,typeInfo,hi,hlen,hr]
  ·refine⟨.slice (some ⟨w.heap.size,0,none⟩) m (grownCap w m 0 e),w.drew.alloc (.cells (news.toArray++Builtin.zeroCells zv.cells (grownCap w m 0 e -m)) e),?_,
    .inr (.inr ⟨grownCap w m 0 e,(Builtin.zeroCells zv.cells (grownCap w m 0 e -m)).toList,by simpa using hge 0 e,grownCap_le_maxLen w m 0 e (by simp only[maxLen];omega),?_,by simp,?_⟩)⟩
   ·have h48':¬(281474976710656<Builtin.nextslicecap m 0*i.bytes):=by
     have:=growslice_fits (need:=m) (old:=0) (bytes:=i.bytes) (by omega) (by simpa using hbytes)
     omega
    have hr:=hx.read (P:=P) (w':=w.drew) rfl
    have h63'':¬(9223372036854775807<(m:Int)):=by omega
    simp[Builtin.append_,run_underlying ht,run_underlying hu,sizeOf,typeInfo,zeroValue,hi,hz,hlen,hm,h63'',h48',Question.forced,run_firstCells_none,hr,newRow,grownCap]
   ·simp only[List.nil_append,List.length_append,hl,Array.length_toList,size_zeroCells,hzs,←Nat.add_mul]
    have:=hge 0 e
    simp only[Nat.zero_add]at this
    congr 1
    omega
   ·congr 2
    apply Array.ext'
    simp
 ·by_cases hroom:n+m≤cap
  ·refine⟨_,_,?_,.inr (.inl ⟨g,off,cap,cs,e',rfl,hg,hs,hroom,hcm,rfl,rfl,rfl⟩)⟩
   have hr:=hx.read (P:=P) (w':=w) rfl
   have hfit:off+n*i.size+news.length≤cs.size:=by
    have:(n+m)*i.size≤cap*i.size:=Nat.mul_le_mul_right _ hroom
    rw[Nat.add_mul]at this
    omega
   have hst:=run_storeCells_at P g (off+n*i.size) e' news 0 cs w hg (by simpa using hfit) h1
   simp only[Nat.add_zero]at hst
   simp[Builtin.append_,run_underlying ht,run_underlying hu,sizeOf,typeInfo,hi,hlen,hroom,hr,Ig,hst]
  ·refine⟨.slice (some ⟨w.heap.size,0,none⟩) (n+m) (grownCap w (n+m) cap e),w.drew.alloc (.cells ((cs.toList.drop off).take (n*i.size)++news++(Builtin.zeroCells zv.cells (grownCap w (n+m) cap e -(n+m))).toList).toArray e),?_,
    .inr (.inr ⟨grownCap w (n+m) cap e,(Builtin.zeroCells zv.cells (grownCap w (n+m) cap e -(n+m))).toList,hge cap e,grownCap_le_maxLen w (n+m) cap e (by simp only[maxLen];omega),?_,rfl,rfl⟩)⟩
   ·have h48':¬(281474976710656<Builtin.nextslicecap (n+m) cap*i.bytes):=by
     have:=growslice_fits (need:=n+m) (old:=cap) (bytes:=i.bytes) (by omega) hbytes
     omega
    have hr:=hx.read (P:=P) (w':=w.drew) rfl
    have hfo:=run_firstCells_some (P:=P) w.drew i.size n ⟨g,off,none⟩ n cap ((cs.toList.drop off).take (n*i.size)) (by
      have:n*i.size≤cap*i.size:=Nat.mul_le_mul_right _ hnc
      simp only[List.length_take,List.length_drop,Array.length_toList];omega) (by
     intro j y hj
     rw[Ig]
     have:=DS cs off (n*i.size) j y hj
     rw[AE (w:=w.drew) (show w.drew.heap[g]?=_ from hg)]
     exact this.1)
    simp[Builtin.append_,run_underlying ht,run_underlying hu,sizeOf,typeInfo,zeroValue,hi,hz,hlen,hroom,h63',h48',Question.forced,hr,hfo,newRow,grownCap]
    congr 2
    apply Array.ext'
    simp
   ·have:n*i.size≤cap*i.size:=Nat.mul_le_mul_right _ hnc
    have h3:((cs.toList.drop off).take (n*i.size)).length=n*i.size:=by simp only[List.length_take,List.length_drop,Array.length_toList];omega
    simp only[List.length_append,hl,h3,Array.length_toList,size_zeroCells,hzs,←Nat.add_mul]
    have:=hge cap e
    congr 1
    omega
end Go.VS
namespace Go.VS
section
variable{E:Env}{lam:Nat→Nat}{z:Nat→Prop}{fp:Ky→List Nat}{hd:Hands}{st:St}{tm:Array Value}{w:World}{ds:List Deferred}
theorem AR.moves(R:Ax E lam z fp hd st tm w){w':World}{i:Nat}(hm:Moves (·∈fp (.h i)) w w'){a:AV}{u:Value}(h:AR st tm w lam a u):AR st tm w' lam a u:=by
 have hb:∀r:Root,∀b,b∈fp r.key→w'.heap[b]?=w.heap[b]?:=fun r b hb=>
  hm.block b (R.fps.ok _ b hb).1 (fun hmem=>R.fps.dis r.key (.h i) b (by cases r<;>simp[Root.key]) hb hmem)
 cases a with
 |ref p ver k lo n=>
  refine⟨h.1,fun hv=>?_⟩
  obtain⟨xs,v0,h1,h2,h3⟩:=h.2 hv
  exact⟨xs,v0,h1,by rw[E4 R h1 (hb _)];exact h2,h3⟩
 |adr p ver k i c=>
  refine⟨h.1,fun hv=>?_⟩
  obtain⟨xs,b,off,len,cap,h1,h2,h3⟩:=h.2 hv
  exact⟨xs,b,off,len,cap,h1,by rw[E4 R h1 (hb _)];exact h2,h3⟩
 |_=>exact trivial
theorem Refs.moves(R:Ax E lam z fp hd st tm w)(F:Refs st tm w lam){w':World}{i:Nat}(hm:Moves (·∈fp (.h i)) w w'):Refs st tm w' lam:=
 fun t s hs j a u hj hu=>(F t s hs j a u hj hu).moves R hm
theorem Bw(tm:Array Value)(m:Nat):tm.setIfInBounds m (tm.getD m undef)=tm:=by
 apply Array.ext_getElem?
 intro i
 rw[Array.getElem?_setIfInBounds]
 split
 ·rename_i h;subst h
  split
  ·rename_i h;simp[h]
  ·rename_i h;simp;omega
 ·rfl
theorem Refs.die(F:Refs st tm w lam)(m:Nat):Refs (st.set m .dead) tm w lam:=by
 have:=F.He (d:=m) (x:=.dead) (v:=tm.getD m undef) (fun s h=>nomatch h)
 rwa [Bw]at this
theorem Ax.giveUp(R:Ax E lam z fp Am st tm w)(m:Nat){l:List AV}{vs:List Value}{f:List Nat}(h:RVs (ctx E lam z st.hp.next) w l vs f)(hn:f.Nodup)(hf:∀b,b∈f→b∈fp (.s m)):
  ∃fp',Ax E lam z fp' (upd Am 0 (l,vs)) (st.set m .dead) tm w:=by
 refine⟨_,R.pass (.s m) (.h 0) (by simp) (Moves.refl _ w) (hd':=upd Am 0 (l,vs)) (st':=st.set m .dead) (tm':=tm) rfl rfl ?_ (f:=[]) (f1:=f) (by simp[AB,St.set,upd,RTV]) (by simpa[AB,upd]using h) List.nodup_nil hn (fun _ h=>nomatch h) (fun _ h=>nomatch h) (fun b hb=>.inl (hf b hb))⟩
 intro κ' h1 h2 C u g hK
 cases κ' with
 |s t'=>
  have hj:t'≠m:=fun e=>h1 (by rw[e])
  simpa only[AB,St.set,upd,if_neg hj]using hK
 |o o=>exact hK
 |h j=>
  have hj:j≠0:=fun e=>h2 (by rw[e])
  simpa only[AB,upd,if_neg hj]using hK
theorem RV.B7{C:Ctx}{v u:Value}{f:List Nat}(h:RV C w (.lit v) u f):u=v:=by cases h;rfl
theorem RV.src{C:Ctx}{k:Nat}{ys:List (List AV)}{v:Value}{f:List Nat}{τ:Tag}(h:RV C w (.sl τ k ys) v f):
  ∃news f',Src w k ys.length v news∧RVs C w ys.flatten news f'∧(∀y∈ys,y.length=k)∧(∀b,b∈f'→b∈f)∧(f.Nodup→f'.Nodup)∧(τ≠.own→f'=[]):=by
 have win:∀(b off:Nat) (cs:Array Value) (e:TypeId) (fz:Nat×Nat),w.heap[b]?=some (.cells cs e fz)→∀j u,((cs.toList.drop off).take (ys.length*k))[j]?=some u→w.cell? ((⟨b,off,none⟩:Addr).add j)=some u:=by
  intro b off cs e fz hb j u hj
  rw[Ig,AE hb]
  exact(DS cs off _ j u hj).1
 cases h with
 |slNil=>exact⟨[],[],.inl ⟨rfl,rfl,rfl⟩,by simpa using RVs.nil,(fun _ h=>nomatch h),(fun _ h=>nomatch h),fun _=>List.nodup_nil,fun _=>rfl⟩
 |shrE _ _ a cap ht=>exact⟨[],[],.inr ⟨a,cap,rfl,by simp,(fun j u h=>by simp at h)⟩,by simpa using RVs.nil,(fun _ h=>nomatch h),(fun _ h=>nomatch h),fun _=>List.nodup_nil,fun _=>rfl⟩
 |own _ _ b off cap cs e f hb hs hc hm hk hr=>
  refine⟨_,f,.inr ⟨⟨b,off,none⟩,cap,rfl,?_,win b off cs e (0,0) hb⟩,hr,hk,fun b hb=>by simp[hb],fun hn=>(List.nodup_cons.1 hn).2,fun h=>absurd rfl h⟩
  rw[←hr.length,BO k ys hk]
 |shr _ _ _ b off cap cs e fz ht hz hi hb hs hc hk hr=>
  refine⟨_,[],.inr ⟨⟨b,off,none⟩,cap,rfl,?_,win b off cs e fz hb⟩,hr,hk,(fun _ h=>nomatch h),fun _=>List.nodup_nil,fun _=>rfl⟩
  rw[←hr.length,BO k ys hk]
theorem U0(R:Ax E lam z fp Am st tm w)(F:Refs st tm w lam){o:Operand}{x:Opd}(ho:AA E.P o=some x){k:Nat}{ys:List (List AV)}{st1:St}(h:(st.source k x).holds (·=(ys,st1)))(ds:List Deferred):
  ∃fp' news,Ax E lam z fp' (upd Am 0 (ys.flatten,news)) st1 tm w∧Refs st1 tm w lam∧Src w k ys.length (Act.eval ⟨tm,ds⟩ o) news∧(∀y∈ys,y.length=k):=by
 have none:∀v,v=Value.slice none 0 0→ys=[]→st1=st→Act.eval ⟨tm,ds⟩ o=v→∃fp' news,Ax E lam z fp' (upd Am 0 (ys.flatten,news)) st1 tm w∧Refs st1 tm w lam∧Src w k ys.length (Act.eval ⟨tm,ds⟩ o) news∧(∀y∈ys,y.length=k):=by
  rintro v rfl rfl rfl he
  exact⟨fp,[],by rw[List.flatten_nil,CH];exact R,F,.inl ⟨he,rfl,rfl⟩,(fun _ h=>nomatch h)⟩
 cases o with
 |global n=>simp[AA]at ho
 |func f=>
  simp only[AA,Option.map_eq_some_iff]at ho
  obtain⟨fn,_,rfl⟩:=ho
  simp only[St.source]at h
  exact h.elim
 |const v=>
  simp only[AA]at ho
  split at ho
  case isFalse=>cases ho
  simp only[Option.some.injEq]at ho
  subst ho
  simp only[St.source]at h
  split at h
  case h_1=>
   rename_i hv
   cases hv
   rw[M.Ad]at h
   cases h
   exact none _ rfl rfl rfl rfl
  all_goals first
   |exact h.elim
   |(rename_i hv;cases hv)
 |tmp m=>
  simp only[AA,Option.some.injEq]at ho
  subst ho
  simp only[St.source]at h
  have hkey:=R.keys (.s m)
  have hF:=F m
  simp only[AB]at hkey
  cases hsl:st.sl m with
  |tup l=>rw[hsl]at h;exact h.elim
  |dead=>rw[hsl]at h;exact h.elim
  |val b s=>
   rw[hsl]at h hkey
   cases s with
   |agg l=>exact h.elim
   |one a=>
    cases a with
    |lit v=>
     split at h
     all_goals first
      |exact h.elim
      |(rename_i e;cases e)
     rw[M.Aa,M.Aj]at h
     obtain⟨hb,h⟩:=h
     rw[M.Ad]at h
     cases h
     exact none _ rfl rfl rfl (RV.B7 (hkey.1 hb))
    |sl τ k' ys'=>
     have main:∀(hb:b=true),∃news f',Src w k' ys'.length (tm.getD m undef) news∧RVs (ctx E lam z st.hp.next) w ys'.flatten news f'∧(∀y∈ys',y.length=k')∧(∀b,b∈f'→b∈fp (.s m))∧((fp (.s m)).Nodup→f'.Nodup)∧(τ≠.own→f'=[]):=
      fun hb=>RV.src (hkey.1 hb)
     cases τ with
     |own=>
      simp only[M.Aa,M.Aj]at h
      obtain⟨hb,hk,h⟩:=h
      subst hk
      rw[M.Ad]at h
      cases h
      obtain⟨news,f',h1,h2,h3,h4,h5,_⟩:=main hb
      obtain⟨fp',R1⟩:=R.giveUp m h2 (h5 (R.fps.nod _)) h4
      exact⟨fp',news,R1,F.die m,h1,h3⟩
     |imm=>
      simp only[M.Aa,M.Aj]at h
      obtain⟨hb,hk,h⟩:=h
      subst hk
      rw[M.Ad]at h
      cases h
      obtain⟨news,f',h1,h2,h3,h4,h5,h6⟩:=main hb
      rw[h6 (by simp)]at h2
      have R1:=R.turn 0 (Moves.refl _ w) h2 List.nodup_nil (fun _ h=>nomatch h)
      exact⟨_,news,R1,F,h1,h3⟩
     |brw=>
      simp only[M.Aa,M.Aj]at h
      obtain⟨hb,hk,h⟩:=h
      subst hk
      rw[M.Ad]at h
      cases h
      obtain⟨news,f',h1,h2,h3,h4,h5,h6⟩:=main hb
      rw[h6 (by simp)]at h2
      have R1:=R.turn 0 (Moves.refl _ w) h2 List.nodup_nil (fun _ h=>nomatch h)
      exact⟨_,news,R1,F,h1,h3⟩
    |ref p v k'' lo n=>
     dsimp only at h
     split at h
     case h_2=>exact h.elim
     rename_i k2 ys2 hp
     simp only[M.Aa,M.Aj]at h
     obtain⟨hb,hk,hk2,hv,hlo,hno,h⟩:=h
     subst hk
     subst hk2
     rw[M.Ad]at h
     cases h
     subst hb
     have hc:=hF _ hsl 0 _ (tm.getD m undef) rfl rfl
     obtain⟨xs',v0,q1,q2,q3⟩:=hc.2 hv
     rw[hp]at q1
     cases q1
     obtain⟨u,f,c1,c2,c3⟩:=R.I4 hp
     rw[q2]at c1
     cases c1
     obtain⟨f2,w1,w2,w3⟩:=HM c2 q3 hlo
     obtain⟨news,f',h1,h2,h3,h4,h5,_⟩:=RV.src w1
     have hlen:(window lo n ys2).length=n:=by rw[HA];simp;omega
     have h6:f'=[]:=h2.D0 (by
      rw[List.any_eq_false]
      intro a ha
      obtain⟨y,hy,hay⟩:=List.mem_flatten.1 ha
      have:=hno y hy
      rw[List.any_eq_false]at this
      exact this a hay)
     rw[h6]at h2
     have R1:=R.turn 0 (Moves.refl _ w) h2 List.nodup_nil (fun _ h=>nomatch h)
     exact⟨_,news,R1,F,h1,h3⟩
    |_=>exact h.elim
theorem QH(R:Ax E lam z fp (upd Am 0 (hd 0)) st tm w)(F:Refs st tm w lam){xs ys:List (List AV)}{olds news:List Value}{fx fy:List Nat}{k:Nat}
  (hx:RVs (ctx E lam z st.hp.next) w xs.flatten olds fx) (hy:RVs (ctx E lam z st.hp.next) w ys.flatten news fy) (hxk:∀x∈xs,x.length=k) (hyk:∀y∈ys,y.length=k)
  {w':World} (hm:Moves (·∈fp (.h 0)) w w') (hin:∀b,b∈fx++fy→b∈fp (.h 0)∧w'.heap[b]?=w.heap[b]?) (hn:(fx++fy).Nodup)
  {b off cap:Nat} {cs:Array Value} {e:TypeId} (hb:w'.heap[b]?=some (.cells cs e (0,0))) (hbf:b∈fp (.h 0)∨(w.heap.size≤b∧b<w'.heap.size)) (hbn:b∉fx++fy)
  (hs:off+cap*k≤cs.size) (hc:xs.length+ys.length≤cap) (hmx:cap≤maxLen) (hcells:(cs.toList.drop off).take ((xs.length+ys.length)*k)=olds++news) {d:Nat} (hd:d<E.nt):
  Rel E (st.set d (V (.sl .own k (xs++ys)))) (tm.setIfInBounds d (.slice (some ⟨b,off,none⟩) (xs.length+ys.length) cap)) w':=by
 have hfr:RVs (ctx E lam z st.hp.next) w' (xs++ys).flatten (olds++news) (fx++fy):=by
  rw[List.flatten_append]
  exact(hx.append hy).frame (Ctx.Le.refl _) (R.Se hm) (fun b hb=>(hin b hb).2)
 have hlen:(xs++ys).length=xs.length+ys.length:=List.length_append
 have hv:=RV.own (C:=ctx E lam z st.hp.next) (w:=w') k (xs++ys) b off cap cs e (fx++fy) hb hs (by rw[hlen];exact hc) hmx (by
  intro x hx
  rcases List.mem_append.1 hx with hx|hx
  ·exact hxk x hx
  ·exact hyk x hx) (by rw[hlen,hcells];exact hfr)
 rw[hlen]at hv
 have R1:=R.turn 0 hm (l:=[.sl .own k (xs++ys)]) (m:=[.slice (some ⟨b,off,none⟩) (xs.length+ys.length) cap]) (RVs.one hv) (List.nodup_cons.2 ⟨hbn,hn⟩) (by
  intro b' hb'
  rcases List.mem_cons.1 hb' with rfl|hb'
  ·exact hbf
  ·exact .inl (hin b' hb').1)
 rw[EW]at R1
 have R2:=R1.Jj 0 d (V (.sl .own k (xs++ys))) (.slice (some ⟨b,off,none⟩) (xs.length+ys.length) cap) hd ⟨fun _=>by simp only[RSV,A8];exact hv,fun h=>nomatch h⟩ (if(st.sl d).BV then upd st.vs d (st.vs d+1)else st.vs) st.hv
 rw[EW,CH]at R2
 refine⟨lam,z,_,R2,(F.moves R hm).set (by rw[R.tsz];exact hd) ?_⟩
 intro j a u hj hu
 cases j with
 |zero=>simp[SV.cells]at hj;subst hj;exact trivial
 |succ j=>simp[SV.cells]at hj
theorem Moves.setRow{may:Nat→Prop}(w:World)(g:Nat)(cs:Array Value)(h:may g):Moves may w (w.setRow g cs):=
 ⟨rfl,rfl,rfl,by simp[World.setRow],fun b _ hn=>setRow_other w g b cs (fun e=>hn (e▸h))⟩
theorem Zs(R:Ax E lam z fp Am st tm w)(F:Refs st tm w lam){o:Oper}{s x:Operand}{t u e e2:TypeId}{a b:Opd}{k by_:Nat}{zs:List Value}{d:Nat}
  (ho:o.op=.call {callee:=.builtin .append,args:=#[s,x],argTypes:=#[t,u]}) (ha:AA E.P s=some a) (hb:AA E.P x=some b) (ht:E.P.underlying t=some (.slice e)) (hu:E.P.underlying u=some (.slice e2))
  (hk:sizeOf? E.P e=some k) (hby:bytesOf? E.P e=some by_) (hz:zeroOf? E.P e=some zs) (hzk:zs.length=k∧0<k∧0<by_) (hdst:o.dst=some d) (hd:d<E.nt) {st':St}
  (h:(st.Fv o.dst (.app k by_ a b)).holds (·=st')):OpW E tm ds w o st':=by
 simp only[St.Fv,hdst,M.Aa]at h
 rw[M.Aw]at h
 obtain⟨⟨ys,st1⟩,h1,h⟩:=h
 rw[M.Aw]at h
 obtain⟨⟨xs,st2⟩,h2,h⟩:=h
 simp only[M.Aj]at h
 obtain⟨hbytes,h63,h⟩:=h
 rw[M.Ad]at h
 subst h
 obtain⟨fp1,news,R1,F1,hsrc,hyk⟩:=U0 R F hb h1 ds
 simp only[St.base,M.Aa]at h2
 rw[M.Aw]at h2
 obtain⟨⟨sv,st3⟩,h3,h2⟩:=h2
 obtain⟨fp2,T⟩:=Mj R1 F1 ha h3 ds
 dsimp only at h2
 obtain⟨i,zv,hi,hiz,hzl,hza⟩:=HB hz
 simp only[sizeOf?,bytesOf?,hi,Option.map_some,Option.some.injEq]at hk hby
 have hzs:zv.cells.size=i.size:=by rw[←Array.length_toList,hzl,hk];exact hzk.1
 have hkey:=T.rel.keys (.h 0)
 simp only[AB,upd,if_true]at hkey
 generalize hva:Act.eval ⟨tm,ds⟩ s=va at*
 generalize hvx:Act.eval ⟨tm,ds⟩ x=vx at*
 obtain⟨m1,m2,fy,fA,e1,ef,ry,rA⟩:=RVs.split ys.flatten hkey
 have hnl:news.length=ys.flatten.length:=by rw[hsrc.len.1,BO k ys hyk]
 obtain⟨rfl,rfl⟩:=List.append_inj e1 (by rw[←ry.length,hnl])
 have hfin:∃olds fx,(va=.slice none 0 0∧xs=[]∧olds=[]∧fx=[]∨∃g off cap cs e',va=.slice (some ⟨g,off,none⟩) xs.length cap∧w.heap[g]?=some (.cells cs e' (0,0))∧off+cap*k≤cs.size∧xs.length≤cap∧cap≤maxLen∧
    olds=(cs.toList.drop off).take (xs.length*k)∧fA=g::fx)∧RVs (ctx E lam z st3.hp.next) w xs.flatten olds fx∧(∀x∈xs,x.length=k)∧st2=st3∧(∀b,b∈fx→b∈fA):=by
  split at h2
  ·simp only[M.Aa,M.Aj]at h2
   obtain⟨hk',h2⟩:=h2
   subst hk'
   rw[M.Ad]at h2
   cases h2
   obtain⟨y,hy,rA⟩:=RVs.Bk (show RVs _ _ [_] [va] _ from rA)
   cases hy
   cases rA with
   |slNil=>exact⟨[],[],.inl ⟨rfl,rfl,rfl,rfl⟩,by simpa using RVs.nil,(fun _ h=>nomatch h),rfl,fun _ h=>h⟩
   |shr _ _ _ _ _ _ _ _ _ ht=>exact absurd rfl ht
   |shrE _ _ _ _ ht=>exact absurd rfl ht
   |own _ _ g off cap cs e' f hb hs hc hm hk hr=>
    exact⟨_,f,.inr ⟨g,off,cap,cs,e',rfl,hb,hs,hc,hm,rfl,rfl⟩,hr,hk,rfl,fun b hb=>by simp[hb]⟩
  ·rw[M.Ad]at h2
   cases h2
   obtain⟨y,hy,rA⟩:=RVs.Bk (show RVs _ _ [_] [va] _ from rA)
   cases hy
   cases rA
   exact⟨[],[],.inl ⟨rfl,rfl,rfl,rfl⟩,by simpa using RVs.nil,(fun _ h=>nomatch h),rfl,fun _ h=>nomatch h⟩
  ·exact h2.elim
 obtain⟨olds,fx,hbase,rx,hxk,rfl,hfx⟩:=hfin
 have hn:(fy++fA).Nodup:=ef▸T.rel.fps.nod _
 rw[List.nodup_append]at hn
 obtain⟨hny,hnA,hnyA⟩:=hn
 have hnf:(fx++fy).Nodup:=by
  rw[List.nodup_append]
  refine⟨?_,hny,fun p hp q hq e=>hnyA q hq p (hfx p hp) e.symm⟩
  rcases hbase with⟨_,_,_,rfl⟩|⟨g,off,cap,cs,e',_,_,_,_,_,_,rfl⟩
  ·exact List.nodup_nil
  ·exact(List.nodup_cons.1 hnA).2
 have hin:∀p,p∈fx++fy→p∈fp2 (.h 0):=by
  intro p hp
  rw[ef]
  simp only[List.mem_append]at hp⊢
  rcases hp with hp|hp
  ·exact .inr (hfx p hp)
  ·exact .inl hp
 subst hk
 subst hby
 obtain⟨v',w',hrun,hres⟩:=XJ (P:=E.P) (w:=w) (t:=t) (u:=u) (ty:=o.type) ht hu hi hiz hzs (v:=va) (x:=vx) (n:=xs.length) (m:=ys.length) (olds:=olds) (news:=news) hsrc (ry.Rw)
  (by
   rcases hbase with⟨q1,q2,q3,_⟩|⟨g,off,cap,cs,e',q1,q2,q3,q4,q5,q6,_⟩
   ·exact .inl ⟨q1,by rw[q2];rfl,q3⟩
   ·exact .inr ⟨g,off,cap,cs,e',q1,q2,q3,q4,q5,q6⟩) h63 hbytes
 refine⟨.value v',w',by simp[execOp,ho,resolve,invoke,builtin,hva,hvx,hrun],.inl ⟨_,rfl,?_⟩⟩
 rw[hdst]
 rcases hres with⟨rfl,rfl,hx0,hy0⟩|⟨g,off,cap,cs,e',q1,q2,q3,q4,q5,q6,rfl,rfl⟩|⟨cap,rest,q1,q2,q3,rfl,rfl⟩
 ·have hx0:=List.eq_nil_of_length_eq_zero hx0
  have hy0:=List.eq_nil_of_length_eq_zero hy0
  subst hx0
  subst hy0
  exact Rel.Rq (xs:=[]) (vs:=[]) (f:=[]) (fp:=upk fp2 (.h 0) []) (by
   have R4:=T.rel.turn 0 (Moves.refl _ w') (l:=[]) (m:=[]) (f:=[]) .nil List.nodup_nil (fun _ h=>nomatch h)
   rw[EW]at R4
   exact R4) (Moves.refl _ _) (RV.slNil .own _) List.nodup_nil (fun _ h=>nomatch h) T.refs hd
 ·rcases hbase with⟨p1,_⟩|⟨g2,off2,cap2,cs2,e2',p1,p2,p3,p4,p5,p6,p7⟩
  ·rw[p1]at q1;cases q1
  rw[p1]at q1
  cases q1
  rw[p2]at q2
  cases q2
  have hgf:g∈fp2 (.h 0):=by rw[ef,p7];simp
  have hgn:g∉fx++fy:=by
   rw[p7]at hnA hnyA
   intro hm
   rcases List.mem_append.1 hm with hm|hm
   ·exact(List.nodup_cons.1 hnA).1 hm
   ·exact hnyA g hm g (by simp) rfl
  have hnm:(xs.length+ys.length)*i.size≤cap*i.size:=Nat.mul_le_mul_right _ q4
  rw[Nat.add_mul]at hnm
  have hl2:=hsrc.len.1
  refine QH (hd:=fun _=>_) T.rel T.refs rx ry hxk hyk (Moves.setRow w g _ hgf) (fun p hp=>⟨hin p hp,setRow_other w g p _ (fun e=>hgn (e▸hp))⟩) hnf (setRow_heap w g cs _ e' (0,0) p2) (.inl hgf) hgn ?_ q4 q5 ?_ hd
  ·simp only[List.size_toArray,List.length_append,List.length_take,List.length_drop,Array.length_toList]
   omega
  ·rw[q6]
   have t1:(cs.toList.take (off+xs.length*i.size)).length=off+xs.length*i.size:=by simp only[List.length_take,Array.length_toList];omega
   rw[List.append_assoc,List.drop_append_of_le_length (by omega),List.drop_take,show off+xs.length*i.size -off=xs.length*i.size from by omega,Nat.add_mul,←List.append_assoc,
    List.take_append_of_le_length (by simp only[List.length_append,List.length_take,List.length_drop,Array.length_toList];omega),List.take_of_length_le (by simp only[List.length_append,List.length_take,List.length_drop,Array.length_toList];omega)]
 ·have hmv:Moves (·∈fp2 (.h 0)) w (w.drew.alloc (.cells (olds++news++rest).toArray e)):=(Moves.drew _ w).trans (Moves.alloc _ w.drew _)
  have hnew:w.heap.size∉fx++fy:=fun hm=>by have:=(T.rel.fps.ok _ _ (hin _ hm)).1;omega
  refine QH (hd:=fun _=>_) T.rel T.refs rx ry hxk hyk hmv (fun p hp=>⟨hin p hp,heap_alloc_old w.drew _ (T.rel.fps.ok _ _ (hin p hp)).1⟩) hnf (heap_alloc_new w.drew _) (.inr ⟨Nat.le_refl _,by simp⟩) hnew ?_ q1 q2 ?_ hd
  ·rw[List.size_toArray,q3];omega
  ·rw[List.drop_zero]
   have:(olds++news).length=(xs.length+ys.length)*i.size:=by rw[List.length_append,hsrc.len.1,←rx.length,BO _ xs hxk,Nat.add_mul]
   rw[←this,List.take_left]
theorem D5.nth{C:Ctx}:∀{l:List SV} {m:List Value} {f:List Nat} {i:Nat} {s:SV},D5 C w l m f→l[i]?=some s→
  ∃v f1 fi f2,m[i]?=some v∧f=f1++(fi++f2)∧RSV C w s v fi∧∀s',RSV C w s' v []→D5 C w (l.set i s') m (f1++f2)
 |[],m,f,i,s,_,hi=>by simp at hi
 |s0::l,[],f,i,s,h,_=>h.elim
 |s0::l,v0::m,f,0,s,h,hi=>by
  simp only[List.getElem?_cons_zero,Option.some.injEq]at hi
  subst hi
  obtain⟨f1,f2,rfl,h1,h2⟩:=h
  exact⟨v0,[],f1,f2,rfl,rfl,h1,fun s' hs'=>⟨[],f2,rfl,hs',h2⟩⟩
 |s0::l,v0::m,f,i+1,s,h,hi=>by
  obtain⟨f1,f2,rfl,h1,h2⟩:=h
  obtain⟨v,g1,gi,g2,e1,rfl,e3,e4⟩:=h2.nth (by simpa using hi)
  exact⟨v,f1++g1,gi,g2,by simpa using e1,by simp,e3,fun s' hs'=>⟨f1,g1++g2,by simp,h1,e4 s' hs'⟩⟩
theorem RV.husk{C:Ctx}{a:AV}{v:Value}{f:List Nat}(h:RV C w a v f):RV C w (if a.Br then .dead else a) v []:=by
 split
 ·exact .dead v h.EJ
 ·rename_i hn
  have:=h.D0 (eq_false_of_ne_true hn)
  rw[this]at h
  exact h
theorem RVs.husk{C:Ctx}:∀{l:List AV} {m:List Value} {f:List Nat},RVs C w l m f→RVs C w (l.map fun a=>if a.Br then .dead else a) m []
 |[],[],_,_=>.nil
 |[],_::_,_,h=>by have:=h.length;simp at this
 |_::_,[],_,h=>by have:=h.length;simp at this
 |a::l,v::m,f,h=>by
  cases h with
  |cons _ _ _ _ _ _ h t=>exact .cons _ _ [] _ _ [] h.husk (RVs.husk t)
theorem RSV.husk{C:Ctx}{s:SV}{v:Value}{f:List Nat}(h:RSV C w s v f):RSV C w s.husk v []:=by
 cases s with
 |one a=>exact RV.husk h
 |agg l=>
  obtain⟨cs,e,h⟩:=h
  exact⟨cs,e,h.husk⟩
theorem HQ{a:AV}{u:Value}(h:a.solid=true):AR st tm w lam a u:=by
 cases a<;>first|exact trivial|simp[AV.solid]at h
theorem Zv(R:Ax E lam z fp Am st tm w)(F:Refs st tm w lam){o:Oper}{x:Operand}{a:Opd}{i d:Nat}(ho:o.op=.extract x i)(ha:AA E.P x=some a)(hdst:o.dst=some d)(hd:d<E.nt){st':St}
  (h:(st.Fv o.dst (.ext a i)).holds (·=st')):OpW E tm ds w o st':=by
 simp only[St.Fv,hdst]at h
 cases x with
 |global n=>simp[AA]at ha
 |func f=>
  simp only[AA,Option.map_eq_some_iff]at ha
  obtain⟨fn,_,rfl⟩:=ha
  exact h.elim
 |const v=>
  simp only[AA]at ha
  split at ha
  case isFalse=>cases ha
  simp only[Option.some.injEq]at ha
  subst ha
  exact h.elim
 |tmp n=>
  simp only[AA,Option.some.injEq]at ha
  subst ha
  dsimp only at h
  split at h
  case h_2=>exact h.elim
  rename_i l hsl
  split at h
  case h_2=>exact h.elim
  rename_i s hs
  rw[M.Aa,M.Aj]at h
  obtain⟨hsol,h⟩:=h
  rw[M.Ad]at h
  subst h
  have hk:=R.keys (.s n)
  simp only[AB,hsl]at hk
  obtain⟨vs,hv,hk⟩:=hk
  obtain⟨v,f1,fi,f2,e1,e2,e3,e4⟩:=hk.nth hs
  have hn:=R.fps.nod (.s n)
  rw[e2]at hn
  obtain⟨n1,n2,n3⟩:=F5 hn
  have R1:=R.pass (.s n) (.h 0) (by simp) (Moves.refl _ w) (hd':=upd Am 0 (s.cells,vcells s v)) (st':=st.set n (.tup (l.set i s.husk))) (tm':=tm) rfl rfl (by
    intro κ' h1 h2 C u g hK
    cases κ' with
    |s t'=>
     have hj:t'≠n:=fun e=>h1 (by rw[e])
     simpa only[AB,St.set,upd,if_neg hj]using hK
    |o o=>exact hK
    |h j=>
     have hj:j≠0:=fun e=>h2 (by rw[e])
     simpa only[AB,upd,if_neg hj]using hK) (f:=f1++f2) (f1:=fi) (by simp only[AB,St.set,upd,if_true];exact⟨vs,hv,e4 _ e3.husk⟩) (by simp only[AB,upd,if_true];exact e3.cells) n1 n2
    (fun b hb hb'=>n3 b hb' hb) (fun b hb=>.inl (by rw[e2];simp only[List.mem_append]at hb⊢;rcases hb with hb|hb<;>simp[hb])) (fun b hb=>.inl (by rw[e2];simp[hb]))
  have F1:Refs (st.set n (.tup (l.set i s.husk))) tm w lam:=by
   have:=F.He (d:=n) (x:=.tup (l.set i s.husk)) (v:=tm.getD n undef) (fun s h=>nomatch h)
   rwa [Bw]at this
  have R2:=R1.Jj 0 d (.val true s) v hd ⟨fun _=>by rw[A8];exact e3,fun h=>nomatch h⟩ (if((st.set n (.tup (l.set i s.husk))).sl d).BV then upd (st.set n (.tup (l.set i s.husk))).vs d ((st.set n (.tup (l.set i s.husk))).vs d+1)else(st.set n (.tup (l.set i s.husk))).vs) (st.set n (.tup (l.set i s.husk))).hv
  rw[EW,CH]at R2
  refine⟨.value v,w,?_,.inl ⟨v,rfl,?_⟩⟩
  ·have e:vs[i]?=some v:=by simpa using e1
   simp[execOp,ho,Act.eval,hv,Instr.extract,e]
  ·rw[hdst]
   refine⟨lam,z,_,R2,F1.set (by rw[R.tsz];exact hd) ?_⟩
   intro j a u hj _
   exact HQ (List.all_eq_true.1 hsol a (List.mem_of_getElem? hj))
end
end Go.VS
namespace Go.VS
theorem KF{C:Ctx}{w:World}:∀{ys:List (List AV)} {l:List Int} {news:List Value} {f:List Nat},bytesOf ys=some l→RVs C w ys.flatten news f→news=l.map (Value.int .u8)
 |[],l,news,f,h,hr=>by
  simp only[bytesOf,Option.some.injEq]at h
  subst h
  cases hr;rfl
 |y::r,l,news,f,h,hr=>by
  unfold bytesOf at h
  split at h
  ·rename_i he;cases he
  ·rename_i n r' he
   cases he
   simp only[Option.map_eq_some_iff]at h
   obtain⟨m,hm,rfl⟩:=h
   simp only[List.flatten_cons,List.singleton_append]at hr
   cases hr with
   |cons _ v f _ m' g h t=>
    rw[RV.B7 h,KF hm t]
    rfl
  ·cases h
theorem foldl_push(l:List Int):∀r:ByteArray,l.foldl (fun r n=>r.push (UInt8.ofNat n.toNat)) r=⟨r.data++(strOf l).toArray⟩:=by
 induction l with
 |nil=>intro r;simp[strOf]
 |cons n l ih=>intro r;rw[List.foldl_cons,ih];simp[strOf,ByteArray.push]
section
variable{E:Env}{lam:Nat→Nat}{z:Nat→Prop}{fp:Ky→List Nat}{hd:Hands}{st:St}{tm:Array Value}{w:World}{ds:List Deferred}
theorem OS{P:Program}{src dst e:TypeId}(hs:P.underlying src=some (.slice e))(he:P.underlying e=some (.int .u8))(hd:P.underlying dst=some .string){m:Nat}{u:Value}{l:List Int}(hx:Src w 1 m u (l.map (Value.int .u8))):
  (convert src dst u).run P w=.ok (.string ⟨(strOf l).toArray⟩) w:=by
 rcases hx with⟨rfl,rfl,hn⟩|⟨a,c,rfl,hl,hc⟩
 ·have:l=[]:=by simpa using hn
  subst this
  rw[run_convert_bytes_string w src dst e none 0 0 hs he hd]
  simp[Conv.bytesToString,strOf]
  rfl
 ·rw[run_convert_bytes_string w src dst e (some a) m c hs he hd]
  have h2:=run_loadCells_list (P:=P) w a (l.map (Value.int .u8)) hc
  rw[hl,Nat.mul_one]at h2
  rw[run_bytesToString w a m c l h2,foldl_push]
  have he0:ByteArray.empty.data=#[]:=rfl
  rw[he0]
  simp
theorem XD(R:Ax E lam z fp hd st tm w)(F:Refs st tm w lam){o:Oper}{t u:TypeId}{x:Operand}{a:Opd}(ho:o.op=.convert t u x)(ha:G7 E.P t u x=some (.conv .bytesToStr a)){s:SV}{g:Bool}(hg:g=true)
  (h:(st.A5 g (.conv .bytesToStr a)).holds (·=s)):OpR E lam z st tm ds w o s:=by
 unfold G7 at ha
 split at ha
 ·cases ha
 ·cases ha
 ·cases ha
 ·rename_i a' e hx hs hd'
  split at ha
  ·rename_i he
   simp only[Option.some.injEq,AOp.conv.injEq,true_and]at ha
   subst ha
   simp only[St.A5,M.Aa]at h
   obtain⟨c,h1,h⟩:=Ba h
   obtain⟨h2,h3⟩:=CW R F hg hx h1 ds
   have h3:=h3.Bk
   generalize hu:Act.eval ⟨tm,ds⟩ x=v at h2 h3
   rw[M.Aw]at h
   obtain⟨ys,hy,h⟩:=h
   rw[M.Ca]at h
   obtain⟨l,hl,h⟩:=h
   rw[M.Ad]at h
   subst h
   have key:∃news f,Src w 1 ys.length v news∧RVs (ctx E lam z st.hp.next) w ys.flatten news f:=by
    unfold St.whole at hy
    split at hy
    ·rename_i p ver k lo n
     split at hy
     case h_2=>exact hy.elim
     rename_i k' xs hat
     simp only[M.Aa,M.Aj,M.Ad]at hy
     obtain⟨rfl,rfl,rfl,hlen,rfl⟩:=hy
     obtain⟨xs',v0,q1,q2,q3⟩:=h3.2 rfl
     obtain⟨u0,f0,r1,r2,_⟩:=R.I4 hat
     rw[q2]at r1
     cases r1
     obtain⟨f',w1,_,_⟩:=HM r2 q3 hlen
     obtain⟨news,f2,s1,s2,_⟩:=w1.src
     exact⟨news,f2,s1,s2⟩
    ·rename_i τ k xs
     simp only[M.Aa,M.Aj,M.Ad]at hy
     obtain⟨rfl,rfl⟩:=hy
     obtain⟨news,f2,s1,s2,_⟩:=RV.src h2
     exact⟨news,f2,s1,s2⟩
    ·rw[M.Ad]at hy
     subst hy
     obtain rfl:=RV.B7 h2
     exact⟨[],[],.inl ⟨rfl,rfl,rfl⟩,.nil⟩
    ·exact hy.elim
   obtain⟨news,f,k1,k2⟩:=key
   have e1:=KF hl k2
   subst e1
   refine⟨.string ⟨(strOf l).toArray⟩,w,?_,ROk.lit rfl,fun hq=>?_,fun _=>rfl⟩
   ·simp[execOp,ho,hu,OS hs he hd' k1]
   ·simp[Hb,TW,ho,hs]at hq
  ·cases ha
 ·cases ha
end
end Go.VS
namespace Go.VS
def AOp.HK:AOp→Bool
 |.call ..|.callv ..=>true
 |_=>false
theorem SM{P:Pg}:∀{os:List Operand},Dr P os=some []→os=[]
 |[],_=>rfl
 |o::os,h=>by
  simp only[Dr]at h
  split at h<;>cases h
section
variable{E:Env}{lam:Nat→Nat}{z:Nat→Prop}{fp:Ky→List Nat}{hd:Hands}{st:St}{tm:Array Value}{w:World}{ds:List Deferred}
theorem MX{c:Call}{f:Callee}{l:List Operand}{ts:List TypeId}(h1:c.callee=f)(h2:c.args.toList=l)(h3:c.argTypes.toList=ts):c={callee:=f,args:=l.toArray,argTypes:=ts.toArray}:=by
 cases c
 simp only at h1 h2 h3
 subst h1 h2 h3
 simp
theorem DU{P:Pg}{c:Call}{op:AOp}(h:Sw P c=some op):
  (∃f fn l,c.callee=.value (.func f)∧P.funcs[f]?=some fn∧fn.body.isSome=true∧(fn.name != "runtime.NumGoroutine")=true∧Dr P c.args.toList=some l∧op=.call fn.name l)∨
  (∃t l,c.callee=.value (.tmp t)∧Dr P c.args.toList=some l∧op=.callv (.t t) l)∨
  (∃x t a e,c={callee:=.builtin .len,args:=#[x],argTypes:=#[t]}∧AA P x=some a∧P.underlying t=some (.slice e)∧op=.lenK a)∨
  (∃x t a,c={callee:=.builtin .len,args:=#[x],argTypes:=#[t]}∧AA P x=some a∧P.underlying t=some .string∧op=.lenS a)∨
  (∃x t n e,c={callee:=.builtin .len,args:=#[x],argTypes:=#[t]}∧P.underlying t=some (.array n e)∧op=.lenC n)∨
  (∃s x t u a b e e2 k by_ zs,c={callee:=.builtin .append,args:=#[s,x],argTypes:=#[t,u]}∧AA P s=some a∧AA P x=some b∧P.underlying t=some (.slice e)∧P.underlying u=some (.slice e2)∧
   sizeOf? P e=some k∧bytesOf? P e=some by_∧zeroOf? P e=some zs∧(zs.length=k∧0<k∧0<by_)∧op=.app k by_ a b)∨
  (∃mx x y ts a b,c={callee:=.builtin (if mx then .max else .min),args:=#[x,y],argTypes:=ts}∧AA P x=some a∧AA P y=some b∧op=.mm mx a b):=by
 unfold Sw at h
 split at h
 ·rename_i f hc
  split at h
  case h_2=>cases h
  rename_i fn l hf hl
  split at h
  case isFalse=>cases h
  rename_i hn
  simp only[Option.some.injEq]at h
  simp only[Bool.and_eq_true]at hn
  exact .inl ⟨f,fn,l,hc,hf,hn.2,hn.1,hl,h.symm⟩
 ·rename_i t hc
  simp only[Option.map_eq_some_iff]at h
  obtain⟨l,hl,rfl⟩:=h
  exact .inr (.inl ⟨t,l,hc,hl,rfl⟩)
 ·rename_i hc
  split at h
  case h_2=>cases h
  rename_i x t hx ht
  have hce:=MX hc hx ht
  split at h
  ·rename_i a e ha he
   cases h
   exact .inr (.inr (.inl ⟨x,t,a,_,hce,ha,he,rfl⟩))
  ·rename_i a ha he
   cases h
   exact .inr (.inr (.inr (.inl ⟨x,t,a,hce,ha,he,rfl⟩)))
  ·rename_i a n e ha he
   cases h
   exact .inr (.inr (.inr (.inr (.inl ⟨x,t,_,_,hce,he,rfl⟩))))
  ·cases h
 ·rename_i hc
  split at h
  case h_2=>cases h
  rename_i s x t u hx ht
  have hce:=MX hc hx ht
  split at h
  case h_2=>cases h
  rename_i a b e e2 ha hb he hu
  split at h
  case h_2=>cases h
  rename_i k by_ zs hk hby hz
  split at h
  case isFalse=>cases h
  rename_i hzk
  cases h
  exact .inr (.inr (.inr (.inr (.inr (.inl ⟨s,x,t,u,a,b,e,e2,k,by_,zs,hce,ha,hb,he,hu,hk,hby,hz,hzk,rfl⟩)))))
 ·rename_i hc
  split at h
  case h_2=>cases h
  rename_i x y hx
  split at h
  case h_2=>cases h
  rename_i a b ha hb
  cases h
  have hce:=MX hc hx rfl
  exact .inr (.inr (.inr (.inr (.inr (.inr ⟨false,x,y,c.argTypes,a,b,by simpa using hce,ha,hb,rfl⟩)))))
 ·rename_i hc
  split at h
  case h_2=>cases h
  rename_i x y hx
  split at h
  case h_2=>cases h
  rename_i a b ha hb
  cases h
  have hce:=MX hc hx rfl
  exact .inr (.inr (.inr (.inr (.inr (.inr ⟨true,x,y,c.argTypes,a,b,by simpa using hce,ha,hb,rfl⟩)))))
 ·cases h
theorem Wd(R:Ax E lam z fp hd st tm w)(F:Refs st tm w lam){o:Oper}{op:AOp}(ho:Lf E.P o=some op)(hW:op.isW=false)(hC:op.HK=false){s:SV}{g:Bool}(hg:g=true)(h:(st.A5 g op).holds (·=s)):
  OpR E lam z st tm ds w o s:=by
 unfold Lf at ho
 split at ho
 ·
  rename_i x hop
  simp only[Option.map_eq_some_iff]at ho
  obtain⟨a,ha,rfl⟩:=ho
  exact ZK R F hop ha hg h
 ·
  simp only[Option.map_eq_some_iff]at ho
  obtain⟨a,ha,rfl⟩:=ho
  cases hW
 ·
  rename_i c a b hop
  split at ho
  case h_2=>cases ho
  rename_i c' a' b' hc ha hb
  cases ho
  exact YE R F hop hc ha hb hg h
 ·simp only[Option.map_eq_some_iff]at ho
  obtain⟨a,ha,rfl⟩:=ho
  cases hW
 ·simp only[Option.map_eq_some_iff]at ho
  obtain⟨a,ha,rfl⟩:=ho
  cases hW
 ·
  rename_i t ps hop
  split at ho
  ·rename_i zs fs hz hu
   split at ho
   case h_2=>cases ho
   rename_i places hp
   simp only[Option.map_eq_some_iff]at ho
   obtain⟨l,hl,rfl⟩:=ho
   exact Uc R F hop hz hl (.inl ⟨fs,places,hu,hp,rfl⟩) hg h
  ·rename_i zs n e hz hu
   split at ho
   case h_2=>cases ho
   rename_i k hk
   simp only[Option.map_eq_some_iff]at ho
   obtain⟨l,hl,rfl⟩:=ho
   exact Uc R F hop hz hl (.inr ⟨n,e,k,hu,hk,rfl⟩) hg h
  ·cases ho
 ·
  split at ho
  case h_2=>cases ho
  split at ho
  case h_2=>cases ho
  split at ho
  case isFalse=>cases ho
  simp only[Option.map_eq_some_iff]at ho
  obtain⟨a,ha,rfl⟩:=ho
  cases hW
 ·
  rename_i t x hop
  split at ho
  case h_2=>cases ho
  rename_i agg n a hagg hn ha
  split at ho
  case isFalse=>cases ho
  rename_i h1
  cases ho
  exact Wr R F hop ha hagg hn h1 hg h
 ·split at ho
  case h_2=>cases ho
  split at ho
  case isFalse=>cases ho
  cases ho
  cases hW
 ·
  rename_i x hop
  simp only[Option.map_eq_some_iff]at ho
  obtain⟨a,ha,rfl⟩:=ho
  exact YD R F hop ha hg h
 ·rename_i hop
  exact Zb R F hop ho hg h
 ·rename_i hop
  simp only[Option.map_eq_some_iff]at ho
  obtain⟨a,ha,rfl⟩:=ho
  exact ZL R F hop ha hg h
 ·rename_i hop
  by_cases hb:∃a,op=.conv .bytesToStr a
  ·obtain⟨a,rfl⟩:=hb
   exact XD R F hop ho hg h
  ·exact Yx R F hop ho (fun a e=>hb ⟨a,e⟩) hg h
 ·
  rename_i t l c hop
  split at ho
  case h_2=>cases ho
  rename_i e ht
  split at ho
  case h_2=>cases ho
  rename_i k by_ zs l' c' hk hby hz hl hc
  split at ho
  case isFalse=>cases ho
  rename_i hzk
  cases ho
  exact YC R F hop hl hc ht hk hby hz hzk hg h
 ·
  rename_i t x lo hi hop
  split at ho
  ·rename_i a lo' hi' ht ha hlo hhi
   cases ho
   exact Zi R F hop ha hlo hhi ht hg h
  ·rename_i e a lo' hi' ht ha hlo hhi
   simp only[Option.map_eq_some_iff]at ho
   obtain⟨k,hk,rfl⟩:=ho
   exact Zh R F hop ha hlo hhi ht hk hg h
  ·cases ho
 ·
  rename_i s' x f hop
  split at ho
  case h_2=>cases ho
  rename_i fs a ht ha
  split at ho
  case h_2=>cases ho
  rename_i fd hf
  split at ho
  case h_2=>cases ho
  rename_i n hn
  split at ho
  case isFalse=>cases ho
  rename_i hn0
  cases ho
  exact XE R F hop ha ht hf hn hn0 hg h
 ·
  rename_i t x f hop
  split at ho
  case h_2=>cases ho
  rename_i fs a ht ha
  split at ho
  case h_2=>cases ho
  rename_i fd hf
  split at ho
  case h_2=>cases ho
  rename_i agg n hagg hn
  split at ho
  case isFalse=>cases ho
  rename_i h1
  cases ho
  exact Zc R F hop ha ht hf hagg hn h1 hg h
 ·
  rename_i t x i hop
  split at ho
  ·rename_i e a b ht ha hb
   simp only[Option.map_eq_some_iff]at ho
   obtain⟨k,hk,rfl⟩:=ho
   exact Zd R F hop ha hb ht hk hg h
  ·rename_i n e a b ht ha hb
   simp only[Option.map_eq_some_iff]at ho
   obtain⟨k,hk,rfl⟩:=ho
   exact Yy R F hop ha hb ht hk hg h
  ·cases ho
 ·
  rename_i t x i hop
  split at ho
  ·rename_i a b ht ha hb
   cases ho
   exact Ze R F hop ha hb ht hg h
  ·rename_i n e a b ht ha hb
   split at ho
   case h_2=>cases ho
   rename_i agg k hagg hk
   split at ho
   case isFalse=>cases ho
   rename_i h1
   cases ho
   exact Zf R F hop ha hb ht hagg hk h1 hg h
  ·cases ho
 ·simp only[Option.map_eq_some_iff]at ho
  obtain⟨a,ha,rfl⟩:=ho
  cases hW
 ·
  rename_i f first caps hop
  have nil:∀a:Array Operand,Dr E.P a.toList=some []→a=#[]:=fun a ha=>by
   have:=SM ha
   apply Array.ext'
   simpa using this
  split at ho
  ·rename_i fn l hf hfirst hl
   cases ho
   obtain rfl:=nil _ hfirst
   exact X9 (b:=false) R F hop hf hl hg h
  ·rename_i fn l hf hfirst hl
   cases ho
   obtain rfl:=nil _ hl
   exact X9 (b:=true) R F hop hf hfirst hg h
  ·cases ho
 ·
  rename_i c hop
  rcases DU ho with⟨_,_,_,_,_,_,_,_,rfl⟩|⟨_,_,_,_,rfl⟩|⟨x,t,a,e,rfl,ha,ht,rfl⟩|⟨x,t,a,rfl,ha,ht,rfl⟩|⟨x,t,n,e,rfl,ht,rfl⟩|⟨_,_,_,_,_,_,_,_,_,_,_,_,_,_,_,_,_,_,_,_,rfl⟩|⟨mx,x,y,ts,a,b,rfl,ha,hb,rfl⟩
  ·cases hC
  ·cases hC
  ·exact YA R F hop ha ht hg h
  ·exact YB R F hop ha ht hg h
  ·exact Yz hop ht h
  ·cases hW
  ·exact ZJ R F hop ha hb hg h
 ·rename_i t x hop
  split at ho
  case h_2=>cases ho
  rename_i k a ht ha
  cases ho
  exact Zg R F hop ht ha hg h
 ·simp only[Option.map_eq_some_iff]at ho
  obtain⟨a,ha,rfl⟩:=ho
  cases hW
 ·cases ho
theorem Yu(R:Ax E lam z fp Am st tm w)(F:Refs st tm w lam){o:Oper}{op:AOp}(ho:Lf E.P o=some op)(hW:op.isW=true)(hd:∀d,o.dst=some d→d<E.nt){st':St}(h:(st.Fv o.dst op).holds (·=st')):
  OpW E tm ds w o st':=by
 have need:(∀d,o.dst≠some d)∨∃d,o.dst=some d∧d<E.nt:=by
  cases hdd:o.dst with
  |none=>exact .inl (fun d h=>nomatch h)
  |some d=>exact .inr ⟨d,rfl,hd d hdd⟩
 have nodst:o.dst=none→op.isW=true→(∀n a x,op≠.store n a x)→False:=by
  intro hn hw hs
  rw[hn]at h
  cases op with
  |store n a x=>exact hs n a x rfl
  |ext x i=>cases x<;>exact h.elim
  |_=>first|exact h.elim|cases hw
 have some_dst:(∀n a x,op≠.store n a x)→∃d,o.dst=some d∧d<E.nt:=by
  intro hs
  rcases need with hn|hn
  ·cases hdd:o.dst with
   |none=>exact(nodst hdd hW hs).elim
   |some d=>exact absurd hdd (hn d)
  ·exact hn
 unfold Lf at ho
 split at ho
 ·simp only[Option.map_eq_some_iff]at ho
  obtain⟨a,ha,rfl⟩:=ho
  cases hW
 ·rename_i x hop
  simp only[Option.map_eq_some_iff]at ho
  obtain⟨a,ha,rfl⟩:=ho
  obtain⟨d,hdst,hd⟩:=some_dst (by simp)
  exact Zt R F hop ha hdst hd h
 ·split at ho
  case h_2=>cases ho
  cases ho
  cases hW
 ·rename_i e hop
  simp only[Option.map_eq_some_iff]at ho
  obtain⟨a,ha,rfl⟩:=ho
  obtain⟨d,hdst,hd⟩:=some_dst (by simp)
  exact XY R F hop ha hdst hd h
 ·rename_i e x hop
  simp only[Option.map_eq_some_iff]at ho
  obtain⟨a,ha,rfl⟩:=ho
  obtain⟨d,hdst,hd⟩:=some_dst (by simp)
  exact Zu R F hop ha hdst hd h
 ·split at ho
  ·split at ho
   case h_2=>cases ho
   simp only[Option.map_eq_some_iff]at ho
   obtain⟨l,hl,rfl⟩:=ho
   cases hW
  ·split at ho
   case h_2=>cases ho
   simp only[Option.map_eq_some_iff]at ho
   obtain⟨l,hl,rfl⟩:=ho
   cases hW
  ·cases ho
 ·rename_i t len ps hop
  split at ho
  case h_2=>cases ho
  rename_i e ht
  split at ho
  case h_2=>cases ho
  rename_i k zs hk hz
  split at ho
  case isFalse=>cases ho
  rename_i hzk
  simp only[Option.map_eq_some_iff]at ho
  obtain⟨l,hl,rfl⟩:=ho
  obtain⟨d,hdst,hd⟩:=some_dst (by simp)
  exact Vf R F hop ht hk hz hzk hl hdst hd h
 ·split at ho
  case h_2=>cases ho
  split at ho
  case isFalse=>cases ho
  cases ho
  cases hW
 ·rename_i t a x hop
  split at ho
  case h_2=>cases ho
  rename_i n a' x' hn ha hx
  split at ho
  case isFalse=>cases ho
  rename_i h0
  cases ho
  exact XZ R F hop (by simpa using h0.2) ha hx hn h0.1 h
 ·simp only[Option.map_eq_some_iff]at ho
  obtain⟨a,ha,rfl⟩:=ho
  cases hW
 ·exfalso
  unfold Mr at ho
  split at ho<;>first
   |(cases ho;cases hW)
   |cases ho
   |(split at ho<;>first|(cases ho;cases hW)|cases ho|(simp only[Option.map_eq_some_iff]at ho;obtain⟨_,_,rfl⟩:=ho;cases hW))
 ·simp only[Option.map_eq_some_iff]at ho
  obtain⟨a,ha,rfl⟩:=ho
  cases hW
 ·exfalso
  unfold G7 at ho
  split at ho<;>first
   |(cases ho;cases hW)
   |cases ho
   |(split at ho<;>first|(cases ho;cases hW)|cases ho)
 ·split at ho
  case h_2=>cases ho
  split at ho
  case h_2=>cases ho
  split at ho
  case isFalse=>cases ho
  cases ho
  cases hW
 ·split at ho
  ·cases ho;cases hW
  ·simp only[Option.map_eq_some_iff]at ho
   obtain⟨k,hk,rfl⟩:=ho
   cases hW
  ·cases ho
 ·split at ho
  case h_2=>cases ho
  split at ho
  case h_2=>cases ho
  split at ho
  case h_2=>cases ho
  split at ho
  case isFalse=>cases ho
  cases ho
  cases hW
 ·split at ho
  case h_2=>cases ho
  split at ho
  case h_2=>cases ho
  split at ho
  case h_2=>cases ho
  split at ho
  case isFalse=>cases ho
  cases ho
  cases hW
 ·split at ho
  ·simp only[Option.map_eq_some_iff]at ho
   obtain⟨k,hk,rfl⟩:=ho
   cases hW
  ·simp only[Option.map_eq_some_iff]at ho
   obtain⟨k,hk,rfl⟩:=ho
   cases hW
  ·cases ho
 ·split at ho
  ·cases ho;cases hW
  ·split at ho
   case h_2=>cases ho
   split at ho
   case isFalse=>cases ho
   cases ho
   cases hW
  ·cases ho
 ·rename_i x i hop
  simp only[Option.map_eq_some_iff]at ho
  obtain⟨a,ha,rfl⟩:=ho
  obtain⟨d,hdst,hd⟩:=some_dst (by simp)
  exact Zv R F hop ha hdst hd h
 ·split at ho<;>cases ho<;>cases hW
 ·rename_i c hop
  rcases DU ho with⟨_,_,_,_,_,_,_,_,rfl⟩|⟨_,_,_,_,rfl⟩|⟨x,t,a,e,rfl,ha,ht,rfl⟩|⟨x,t,a,rfl,ha,ht,rfl⟩|⟨x,t,n,e,rfl,ht,rfl⟩|⟨s,x,t,u,a,b,e,e2,k,by_,zs,rfl,ha,hb,ht,hu,hk,hby,hz,hzk,rfl⟩|⟨mx,x,y,ts,a,b,rfl,ha,hb,rfl⟩
  all_goals first
   |cases hW;done
   |skip
  obtain⟨d,hdst,hd⟩:=some_dst (by simp)
  exact Zs R F hop ha hb ht hu hk hby hz hzk hdst hd h
 ·split at ho
  case h_2=>cases ho
  cases ho
  cases hW
 ·simp only[Option.map_eq_some_iff]at ho
  obtain⟨a,ha,rfl⟩:=ho
  exact h.elim
 ·cases ho
end
end Go.VS
namespace Go.VS
theorem NJ(xs:List (List AV)):(Gq xs).flatten=K6 xs.flatten:=by
 induction xs with
 |nil=>rfl
 |cons x xs ih=>
  have e:∀a b:List AV,K6 (a++b)=K6 a++K6 b:=by intro a b;simp[Rk]
  simp[Gq,ih,e]
theorem Fi(xs:List (List AV)):(Gq xs).length=xs.length:=by simp[Jc]
theorem V8{k:Nat}{xs:List (List AV)}(h:∀x∈xs,x.length=k):∀x∈Gq xs,x.length=k:=by
 intro x hx
 rw[Jc]at hx
 obtain⟨y,hy,rfl⟩:=List.mem_map.1 hx
 simpa using h y hy
theorem OI(xs:List (List AV)):(Iu xs).flatten=NC xs.flatten:=by
 induction xs with
 |nil=>rfl
 |cons x xs ih=>
  have e:∀a b:List AV,NC (a++b)=NC a++NC b:=by intro a b;simp[KT]
  simp[Iu,ih,e]
theorem FT(xs:List (List AV)):(Iu xs).length=xs.length:=by simp[KR]
theorem Xr{k:Nat}{xs:List (List AV)}(h:∀x∈xs,x.length=k):∀x∈Iu xs,x.length=k:=by
 intro x hx
 rw[KR]at hx
 obtain⟨y,hy,rfl⟩:=List.mem_map.1 hx
 simpa using h y hy
mutual
theorem RV.lend{C C':Ctx}{w:World}(hC:C.Le C'):∀{a:AV} {v:Value} {f:List Nat},RV C w a v f→(∀b,b∈f→C'.zb b)→RV C' w a.lend v []
 |_,_,_,.lit v h,_=>.lit v h
 |_,_,_,.dead v h,_=>.dead v h
 |_,_,_,.ptr o c h,_=>(RV.ptr (C:=C) (w:=w) o c h).frame hC (fun _ _=>rfl) (fun _ h=>nomatch h)
 |_,_,_,.ref p ver k lo n a cap,_=>.ref p ver k lo n a cap
 |_,_,_,.adr p ver k i c v,_=>.adr p ver k i c v
 |_,_,_,.iadr k xs i c b off cs e fz z hb hs hk hr,_=>(RV.iadr (C:=C) (w:=w) k xs i c b off cs e fz z hb hs hk hr).frame hC (fun _ _=>rfl) (fun _ h=>nomatch h)
 |_,_,_,.clo name caps f fn cvs hf hn hr,_=>(RV.clo (C:=C) (w:=w) name caps f fn cvs hf hn hr).frame hC (fun _ _=>rfl) (fun _ h=>nomatch h)
 |_,_,_,.slNil τ k,_=>by cases τ<;>exact .slNil _ k
 |_,_,_,.shrE τ k a cap ht,_=>by
  cases τ
  ·exact absurd rfl ht
  ·exact .shrE _ k a cap ht
  ·exact .shrE _ k a cap ht
 |_,_,_,.own k xs b off cap cs e f hb hs hc hm hk hr,hf=>by
  have hl:xs.length*k≤cap*k:=Nat.mul_le_mul_right _ hc
  have:=RV.shr (C:=C') (w:=w) .brw k (Gq xs) b off cap cs e (0,0) (by simp) (hf b (by simp)) (fun h=>nomatch h) hb (by rw[Fi];omega) (by rw[Fi];exact hc) (V8 hk)
   (by rw[Fi,NJ];exact RVs.lend hC hr (fun b' hb'=>hf b' (by simp[hb'])))
  rw[Fi]at this
  exact this
 |_,_,_,.shr τ k xs b off cap cs e fz ht z hi hb hs hc hk hr,_=>by
  have:=(RV.shr (C:=C) (w:=w) τ k xs b off cap cs e fz ht z hi hb hs hc hk hr).frame hC (fun _ _=>rfl) (fun _ h=>nomatch h)
  cases τ
  ·exact absurd rfl ht
  ·exact this
  ·exact this
theorem RVs.lend{C C':Ctx}{w:World}(hC:C.Le C'):∀{l:List AV} {m:List Value} {f:List Nat},RVs C w l m f→(∀b,b∈f→C'.zb b)→RVs C' w (K6 l) m []
 |_,_,_,.nil,_=>.nil
 |_,_,_,.cons a v f l m g h t,hf=>.cons _ v [] _ m [] (RV.lend hC h (fun b hb=>hf b (by simp[hb]))) (RVs.lend hC t (fun b hb=>hf b (by simp[hb])))
end
mutual
theorem RV.frz{C C':Ctx}{w:World}(hC:C.Le C'):∀{a:AV} {v:Value} {f:List Nat},RV C w a v f→(∀b,b∈f→C'.zb b∧C'.zt b)→RV C' w a.frz v []
 |_,_,_,.lit v h,_=>.lit v h
 |_,_,_,.dead v h,_=>.dead v h
 |_,_,_,.ptr o c h,_=>(RV.ptr (C:=C) (w:=w) o c h).frame hC (fun _ _=>rfl) (fun _ h=>nomatch h)
 |_,_,_,.ref p ver k lo n a cap,_=>.ref p ver k lo n a cap
 |_,_,_,.adr p ver k i c v,_=>.adr p ver k i c v
 |_,_,_,.iadr k xs i c b off cs e fz z hb hs hk hr,_=>(RV.iadr (C:=C) (w:=w) k xs i c b off cs e fz z hb hs hk hr).frame hC (fun _ _=>rfl) (fun _ h=>nomatch h)
 |_,_,_,.clo name caps f fn cvs hf hn hr,_=>(RV.clo (C:=C) (w:=w) name caps f fn cvs hf hn hr).frame hC (fun _ _=>rfl) (fun _ h=>nomatch h)
 |_,_,_,.slNil τ k,_=>by cases τ<;>exact .slNil _ k
 |_,_,_,.shrE τ k a cap ht,_=>by
  cases τ
  ·exact absurd rfl ht
  ·exact .shrE _ k a cap ht
  ·exact .shrE _ k a cap ht
 |_,_,_,.own k xs b off cap cs e f hb hs hc hm hk hr,hf=>by
  have hl:xs.length*k≤cap*k:=Nat.mul_le_mul_right _ hc
  have:=RV.shr (C:=C') (w:=w) .imm k (Iu xs) b off cap cs e (0,0) (by simp) (hf b (by simp)).1 (fun _=>(hf b (by simp)).2) hb (by rw[FT];omega) (by rw[FT];exact hc) (Xr hk)
   (by rw[FT,OI];exact RVs.frz hC hr (fun b' hb'=>hf b' (by simp[hb'])))
  rw[FT]at this
  exact this
 |_,_,_,.shr τ k xs b off cap cs e fz ht z hi hb hs hc hk hr,_=>by
  have:=(RV.shr (C:=C) (w:=w) τ k xs b off cap cs e fz ht z hi hb hs hc hk hr).frame hC (fun _ _=>rfl) (fun _ h=>nomatch h)
  cases τ
  ·exact absurd rfl ht
  ·exact this
  ·exact this
theorem RVs.frz{C C':Ctx}{w:World}(hC:C.Le C'):∀{l:List AV} {m:List Value} {f:List Nat},RVs C w l m f→(∀b,b∈f→C'.zb b∧C'.zt b)→RVs C' w (NC l) m []
 |_,_,_,.nil,_=>.nil
 |_,_,_,.cons a v f l m g h t,hf=>.cons _ v [] _ m [] (RV.frz hC h (fun b hb=>hf b (by simp[hb]))) (RVs.frz hC t (fun b hb=>hf b (by simp[hb])))
end
mutual
def AV.plain:AV→Bool
 |.lit _=>true
 |.sl .brw _ _=>false
 |.sl _ _ xs=>Ej xs
 |.clo _ caps=>A6 caps
 |_=>false
def A6:List AV→Bool
 |[]=>true
 |a::l=>a.plain&&A6 l
def Ej:List (List AV)→Bool
 |[]=>true
 |l::ls=>A6 l&&Ej ls
end
theorem Pv(l:List AV):A6 l=l.all AV.plain:=by induction l<;>simp[A6, *]
theorem SP(l:List (List AV)):Ej l=l.all (fun l=>l.all AV.plain):=by induction l<;>simp[Ej,Pv, *]
theorem H7{xs:List (List AV)}(h:Ej xs=true):A6 xs.flatten=true:=by
 rw[Pv,List.all_flatten]
 rw[SP]at h
 exact h
theorem Ir{xs:List (List AV)}(h:EE xs=true):BJ xs.flatten=true:=by
 rw[Nz,List.all_flatten]
 rw[L6]at h
 exact h
structure Ctx.Seen(C C':Ctx):Prop where
 P:C'.P=C.P
 zt:∀b,C.zt b→C'.zt b
 zb:∀b,C'.zt b→C'.zb b
mutual
theorem RV.C9{C C':Ctx}{w:World}(hC:C.Seen C'):∀{a:AV} {v:Value} {f:List Nat},RV C w a v f→a.plain=true→RV C' w a v f
 |_,_,_,.lit v h,_=>.lit v h
 |_,_,_,.dead v h,h'=>by simp[AV.plain]at h'
 |_,_,_,.ptr o c h,h'=>by simp[AV.plain]at h'
 |_,_,_,.ref ..,h'=>by simp[AV.plain]at h'
 |_,_,_,.adr ..,h'=>by simp[AV.plain]at h'
 |_,_,_,.iadr ..,h'=>by simp[AV.plain]at h'
 |_,_,_,.clo name caps f fn cvs hf hn hr,h'=>.clo name caps f fn cvs (by rw[hC.P];exact hf) hn (RVs.C9 hC hr (by simpa[AV.plain]using h'))
 |_,_,_,.slNil τ k,_=>.slNil τ k
 |_,_,_,.shrE τ k a cap ht,_=>.shrE τ k a cap ht
 |_,_,_,.own k xs b off cap cs e f hb hs hc hm hk hr,h'=>.own k xs b off cap cs e f hb hs hc hm hk (RVs.C9 hC hr (H7 (by simpa[AV.plain]using h')))
 |_,_,_,.shr .own k xs b off cap cs e fz ht z hi hb hs hc hk hr,h'=>absurd rfl ht
 |_,_,_,.shr .imm k xs b off cap cs e fz ht z hi hb hs hc hk hr,h'=>
  .shr .imm k xs b off cap cs e fz ht (hC.zb b (hC.zt b (hi rfl))) (fun _=>hC.zt b (hi rfl)) hb hs hc hk (RVs.C9 hC hr (H7 (by simpa[AV.plain]using h')))
 |_,_,_,.shr .brw k xs b off cap cs e fz ht z hi hb hs hc hk hr,h'=>by simp[AV.plain]at h'
theorem RVs.C9{C C':Ctx}{w:World}(hC:C.Seen C'):∀{l:List AV} {m:List Value} {f:List Nat},RVs C w l m f→A6 l=true→RVs C' w l m f
 |_,_,_,.nil,_=>.nil
 |_,_,_,.cons a v f l m g h t,h'=>by
  simp only[A6,Bool.and_eq_true]at h'
  exact .cons a v f l m g (RV.C9 hC h h'.1) (RVs.C9 hC t h'.2)
end
structure Ctx.Kept(C C':Ctx):Prop where
 seen:C.Seen C'
 lam:C'.lam=C.lam
 nx:C'.nx=C.nx
mutual
theorem RV.Gt{C C':Ctx}{w:World}(hC:C.Kept C'):∀{a:AV} {v:Value} {f:List Nat},RV C w a v f→a.free=true→RV C' w a v f
 |_,_,_,.lit v h,_=>.lit v h
 |_,_,_,.dead v h,h'=>by simp[AV.free]at h'
 |_,_,_,.ptr o c h,_=>by rw[←hC.lam];exact .ptr o c (by rw[hC.nx];exact h)
 |_,_,_,.ref ..,h'=>by simp[AV.free]at h'
 |_,_,_,.adr ..,h'=>by simp[AV.free]at h'
 |_,_,_,.iadr ..,h'=>by simp[AV.free]at h'
 |_,_,_,.clo name caps f fn cvs hf hn hr,h'=>.clo name caps f fn cvs (by rw[hC.seen.P];exact hf) hn (RVs.Gt hC hr (by simpa[AV.free]using h'))
 |_,_,_,.slNil τ k,_=>.slNil τ k
 |_,_,_,.shrE τ k a cap ht,_=>.shrE τ k a cap ht
 |_,_,_,.own k xs b off cap cs e f hb hs hc hm hk hr,h'=>.own k xs b off cap cs e f hb hs hc hm hk (RVs.Gt hC hr (Ir (by simpa[AV.free]using h')))
 |_,_,_,.shr .own k xs b off cap cs e fz ht z hi hb hs hc hk hr,h'=>absurd rfl ht
 |_,_,_,.shr .imm k xs b off cap cs e fz ht z hi hb hs hc hk hr,h'=>
  .shr .imm k xs b off cap cs e fz ht (hC.seen.zb b (hC.seen.zt b (hi rfl))) (fun _=>hC.seen.zt b (hi rfl)) hb hs hc hk (RVs.Gt hC hr (Ir (by simpa[AV.free]using h')))
 |_,_,_,.shr .brw k xs b off cap cs e fz ht z hi hb hs hc hk hr,h'=>by simp[AV.free]at h'
theorem RVs.Gt{C C':Ctx}{w:World}(hC:C.Kept C'):∀{l:List AV} {m:List Value} {f:List Nat},RVs C w l m f→BJ l=true→RVs C' w l m f
 |_,_,_,.nil,_=>.nil
 |_,_,_,.cons a v f l m g h t,h'=>by
  simp only[BJ,Bool.and_eq_true]at h'
  exact .cons a v f l m g (RV.Gt hC h h'.1) (RVs.Gt hC t h'.2)
end
end Go.VS
namespace Go.VS
def start(args:List SV)(H:Heap):St:=⟨fun t=>match args[t]?with|some s=>.val true s|none=>.dead,H,fun _=>0,0⟩
def fin(r:TV)(H:Heap):St:=⟨fun t=>if t=0 then r else .dead,H,fun _=>0,0⟩
def Env.one(E:Env):Env:=⟨E.P,E.w0,E.f0,E.i0,1,E.n0,E.l0,E.lw⟩
def TV.kept:TV→Bool
 |.val true s=>BJ s.cells
 |.tup l=>l.all fun s=>BJ s.cells
 |_=>false
def TV.plain:TV→Bool
 |.val true s=>A6 s.cells
 |.tup l=>l.all fun s=>A6 s.cells
 |_=>false
def Heap.Free(H:Heap):Prop:=∀o l,H.get o=some l→BJ l=true
def Gives(E:Env)(K:TV→Heap→Prop)(v:Value)(w':World):Prop:=
 ∃r H' lam z fp,K r H'∧r.kept=true∧Ax E.one lam z fp Am (fin r H') #[v] w'
def GR(E:Env)(ch:List PanicEntry)(w':World):Prop:=
 ∃v,ch=[{v,recovered:=false}]∧E.P.kp v∧(∀b,b<E.w0.heap.size→¬E.f0 b→w'.heap[b]?=E.w0.heap[b]?)∧w'.os=E.w0.os∧w'.tape=E.w0.tape∧w'.output=E.w0.output∧E.w0.heap.size≤w'.heap.size
def GN(P:Pg)(name:String)(args:List SV)(H:Heap)(K:TV→Heap→Prop):Prop:=
 ∀f fn,P.funcs[f]?=some fn→fn.name=name→fn.body.isSome=true∧(fn.name== "runtime.NumGoroutine")=false∧∀(E:Env) (w:World) (vs:Array Value) (lam:Nat→Nat) (fp:Ky→List Nat),E.P=P→E.w0=w→E.n0=H.next→E.nt=vs.size→vs.size=args.length→
  Ax E lam (fun _=>False) fp Am (start args H) vs w→(∀(t:Nat) (s:SV),args[t]?=some s→s.cells.all AV.solid=true)→
  Calls P f vs w fun
   |.returned v,w'=>Gives E K v w'
   |.panicked ch,w'=>GR E ch w'
   |_,_=>False
theorem GN.mono{P:Pg}{name:String}{args:List SV}{H:Heap}{K K':TV→Heap→Prop}(h:GN P name args H K)(hk:∀r H',K r H'→K' r H'):GN P name args H K':=by
 intro f fn hf hn
 obtain⟨hb,hg,h⟩:=h f fn hf hn
 refine⟨hb,hg,fun E w vs lam fp h1 h2 h3 h4 h5 h6 h7=>?_⟩
 refine(h E w vs lam fp h1 h2 h3 h4 h5 h6 h7).mono fun e w' he=>?_
 cases e with
 |returned v=>
  obtain⟨r,H',lam,z,fp,k,rest⟩:=he
  exact⟨r,H',lam,z,fp,hk _ _ k,rest⟩
 |_=>exact he
def Heap.shown(H:Heap)(V:Vis):Heap:=⟨fun o=>if V.sees o then H.get o else none,H.next⟩
section
variable{E:Env}{lam:Nat→Nat}{z:Nat→Prop}{fp:Ky→List Nat}{hd:Hands}{st:St}{tm:Array Value}{w:World}{ds:List Deferred}
theorem VL(E:Env)(lam:Nat→Nat){z z1:Nat→Prop}(h:∀b,z b→z1 b)(nx:Nat):(ctx E lam z nx).Le (ctx E lam z1 nx):=
 ⟨rfl,fun _ _=>rfl,Nat.le_refl _,fun b hb=>hb.imp id (h b),fun b hb=>hb.imp id (h b)⟩
def SV.frz:SV→SV
 |.one a=>.one a.frz
 |.agg l=>.agg (l.map AV.frz)
theorem UB(s:SV):s.frz.cells=NC s.cells:=by
 cases s<;>simp[SV.frz,SV.cells,KT]
structure Frozen(E:Env)(lam:Nat→Nat)(z:Nat→Prop)(fp:Ky→List Nat)(st:St)(tm:Array Value)(w:World)(who:Nat→Prop)(st1:St)(z1:Nat→Prop)(fp1:Ky→List Nat):Prop where
 rel:Ax E lam z1 fp1 Am st1 tm w
 refs:Refs st1 tm w lam
 zle:∀b,z b→z1 b
 fs:∀m b,b∈fp (.s m)→b∈fp1 (.s m)∨z1 b
 who:∀n s,who n→st.sl n=.val true s→∀b,b∈fp (.s n)→z1 b
 fo:∀o,fp1 (.o o)=fp (.o o)
 zs:∀b,z1 b→z b∨∃n,b∈fp (.s n)
 hp:st1.hp=st.hp
 hv:st1.hv=st.hv
 sub:∀m b,b∈fp1 (.s m)→b∈fp (.s m)
 val:∀m s,st.sl m=.val true s→∃s',st1.sl m=.val true s'
theorem O7(R:Ax E lam z fp Am st tm w)(F:Refs st tm w lam)(x:Opd):∃z1 fp1,Frozen E lam z fp st tm w (fun n=>x=.t n) (st.CT x) z1 fp1:=by
 have triv:st.CT x=st→(∀n s,x=.t n→st.sl n=.val true s→fp (.s n)=[])→∃z1 fp1,Frozen E lam z fp st tm w (fun n=>x=.t n) (st.CT x) z1 fp1:=by
  intro e h0
  rw[e]
  exact⟨z,fp,⟨R,F,fun _ h=>h,fun _ _ h=>.inl h,fun n s hx hs b hb=>(by rw[h0 n s hx hs]at hb;cases hb),fun _=>rfl,fun _ h=>.inl h,rfl,rfl,fun _ _ h=>h,fun m s hs=>⟨s,hs⟩⟩⟩
 cases x with
 |c v=>exact triv rfl (fun _ _ h=>nomatch h)
 |f nm=>exact triv rfl (fun _ _ h=>nomatch h)
 |t n=>
  cases ho:(st.sl n).BV with
  |false=>
   refine triv (by simp[St.CT,ho]) ?_
   intro m s hx hs
   cases hx
   have hk:=R.keys (.s n)
   simp only[AB,hs]at hk
   have h1:=(hk.1 rfl).cells
   exact h1.D0 (by rw[hs]at ho;exact ho)
  |true=>
   cases hs:st.sl n with
   |dead=>rw[hs]at ho;simp[TV.BV]at ho
   |tup l=>
    have e:st.CT (.t n)=st.set n (.tup l):=by rw[hs]at ho;simp[St.CT,hs,ho]
    rw[e]
    refine⟨z,fp,⟨?_,?_,fun _ h=>h,fun _ _ h=>.inl h,fun m s hx hs' b hb=>(by cases hx;rw[hs]at hs';cases hs'),fun _=>rfl,fun _ h=>.inl h,rfl,rfl,fun _ _ h=>h,?_⟩⟩
    ·have hsl:(st.set n (.tup l)).sl=st.sl:=by
      funext t
      simp only[St.set,upd]
      split
      ·subst_vars;exact hs.symm
      ·rfl
     have:=R.vers (st.set n (.tup l)).vs (st.set n (.tup l)).hv
     rw[←hsl]at this
     exact this
    ·have:=F.He (d:=n) (x:=.tup l) (v:=tm.getD n undef) (fun s h=>nomatch h)
     rwa [Bw]at this
    ·intro m s hm
     by_cases hmn:m=n
     ·subst hmn;rw[hs]at hm;cases hm
     ·exact⟨s,by simp[St.set,upd,hmn,hm]⟩
   |val g s=>
    have e:st.CT (.t n)=st.set n (.val g s.frz):=by
     rw[hs]at ho
     simp only[St.CT,hs,ho,if_true]
     cases s<;>rfl
    rw[e]
    generalize hs2:s.frz=s2
    have hk:=R.keys (.s n)
    simp only[AB,hs]at hk
    have hle:=VL E lam (z:=z) (z1:=fun b=>z b∨b∈fp (.s n)) (fun _ h=>.inl h) st.hp.next
    have hC:∀b,b∈fp (.s n)→(ctx E lam (fun b=>z b∨b∈fp (.s n)) st.hp.next).zb b∧(ctx E lam (fun b=>z b∨b∈fp (.s n)) st.hp.next).zt b:=fun b hb=>⟨.inr (.inr hb),.inr (.inr hb)⟩
    refine⟨fun b=>z b∨b∈fp (.s n),upk fp (.s n) [],⟨⟨?_,⟨?_,?_,?_⟩,?_,R.frame,R.os,R.tape,R.output,R.size,R.tsz,R.base,R.i0⟩,?_,fun _ h=>.inl h,?_,fun m s hx _ b hb=>(by cases hx;exact .inr hb),fun o=>AO _ _ (by simp),?_,rfl,rfl,?_,?_⟩⟩
    ·intro κ
     by_cases hκ:κ=.s n
     ·subst hκ
      rw[A8]
      simp only[AB,St.set,upd,if_true]
      refine⟨fun hg=>?_,fun hg=>⟨(hk.2 hg).1,rfl⟩⟩
      have h1:=hk.1 hg
      subst hs2
      cases s with
      |one a=>exact RV.frz hle h1 hC
      |agg l=>
       obtain⟨cs,e1,h1⟩:=h1
       refine⟨cs,e1,?_⟩
       rw[←KT]
       exact RVs.frz hle h1 hC
     ·rw[AO _ _ hκ]
      have:=(R.keys κ).frame hle (fun _ _=>rfl) (fun _ _=>rfl)
      cases κ with
      |s t=>
       have ht:t≠n:=fun e=>hκ (by rw[e])
       simpa only[AB,St.set,upd,if_neg ht]using this
      |o o=>exact this
      |h i=>exact this
    ·intro κ
     by_cases hκ:κ=.s n
     ·subst hκ;rw[A8];exact List.nodup_nil
     ·rw[AO _ _ hκ];exact R.fps.nod κ
    ·intro κ κ' b hne hb hb'
     by_cases hκ:κ=.s n
     ·subst hκ;rw[A8]at hb;cases hb
     ·by_cases hκ':κ'=.s n
      ·subst hκ';rw[A8]at hb';cases hb'
      ·rw[AO _ _ hκ]at hb;rw[AO _ _ hκ']at hb';exact R.fps.dis κ κ' b hne hb hb'
    ·intro κ b hb
     by_cases hκ:κ=.s n
     ·subst hκ;rw[A8]at hb;cases hb
     ·rw[AO _ _ hκ]at hb
      obtain⟨h1,h2,h3⟩:=R.fps.ok κ b hb
      exact⟨h1,h2,fun h=>h.elim h3 (fun h=>R.fps.dis κ (.s n) b hκ hb h)⟩
    ·rintro b (hb|hb)
     ·exact R.z b hb
     ·exact⟨(R.fps.ok _ b hb).1,(R.fps.ok _ b hb).2.1⟩
    ·cases hg:g with
     |false=>
      have:=F.He (d:=n) (x:=.val false s2) (v:=tm.getD n undef) (fun s h=>by cases h)
      rwa [Bw]at this
     |true=>
      subst hg
      have hin:CS st tm w lam s2 (tm.getD n undef):=by
       intro j a u hj hu
       have hc:s2.cells=NC s.cells:=by rw[←hs2];exact UB s
       rw[hc,KT,List.getElem?_map]at hj
       cases hsj:s.cells[j]?with
       |none=>rw[hsj]at hj;cases hj
       |some a0=>
        rw[hsj]at hj
        simp only[Option.map_some,Option.some.injEq]at hj
        have hvc:vcells s2 (tm.getD n undef)=vcells s (tm.getD n undef):=by
         rw[←hs2]
         cases s with
         |one a=>rfl
         |agg l=>exact GH _ _ _
        rw[hvc]at hu
        have:=F n s hs j a0 u hsj hu
        subst hj
        cases a0 with
        |sl τ k xs=>cases τ<;>exact trivial
        |_=>exact this
      by_cases hnt:n<tm.size
      ·have:=F.set (d:=n) (s:=s2) (v:=tm.getD n undef) hnt hin
       rwa [Bw]at this
      ·intro t s' hs'
       by_cases ht:t=n
       ·subst ht
        simp only[St.set,upd,if_true,TV.val.injEq,true_and]at hs'
        subst hs'
        have:=hin.set (d:=t) (x:=.val true s2) (v:=tm.getD t undef)
        rwa [Bw]at this
       ·simp only[St.set,upd,if_neg ht]at hs'
        have:=(F t s' hs').set (d:=n) (x:=.val true s2) (v:=tm.getD n undef)
        rwa [Bw]at this
    ·intro m b hb
     by_cases hm:m=n
     ·subst hm;exact .inr (.inr hb)
     ·exact .inl (by rw[AO _ _ (by simpa using hm)];exact hb)
    ·rintro b (hb|hb)
     ·exact .inl hb
     ·exact .inr ⟨n,hb⟩
    ·intro m b hb
     by_cases hm:m=n
     ·subst hm;rw[A8]at hb;cases hb
     ·rw[AO _ _ (by simpa using hm)]at hb;exact hb
    ·intro m s' hm
     by_cases hmn:m=n
     ·subst hmn
      rw[hs]at hm
      cases hm
      exact⟨s2,by simp[St.set,upd]⟩
     ·exact⟨s',by simp[St.set,upd,hmn,hm]⟩
theorem NB:∀(xs:List Opd) {z:Nat→Prop} {fp:Ky→List Nat} {st:St},Ax E lam z fp Am st tm w→Refs st tm w lam→∃z1 fp1,Frozen E lam z fp st tm w (fun n=>.t n∈xs) (st.EF xs) z1 fp1
 |[],z,fp,st,R,F=>⟨z,fp,⟨R,F,fun _ h=>h,fun _ _ h=>.inl h,(fun _ _ h=>nomatch h),fun _=>rfl,fun _ h=>.inl h,rfl,rfl,fun _ _ h=>h,fun m s hs=>⟨s,hs⟩⟩⟩
 |x::xs,z,fp,st,R,F=>by
  obtain⟨z1,fp1,A⟩:=O7 R F x
  obtain⟨z2,fp2,B⟩:=NB xs A.rel A.refs
  refine⟨z2,fp2,⟨B.rel,B.refs,fun b h=>B.zle b (A.zle b h),?_,?_,fun o=>(B.fo o).trans (A.fo o),?_,B.hp.trans A.hp,B.hv.trans A.hv,fun m b hb=>A.sub m b (B.sub m b hb),?_⟩⟩
  ·intro m b hb
   rcases A.fs m b hb with h|h
   ·exact B.fs m b h
   ·exact .inr (B.zle b h)
  ·intro n s hn hs b hb
   rcases List.mem_cons.1 hn with hn|hn
   ·exact B.zle b (A.who n s hn.symm hs b hb)
   ·obtain⟨s',hs'⟩:=A.val n s hs
    rcases A.fs n b hb with h|h
    ·exact B.who n s' hn hs' b h
    ·exact B.zle b h
  ·intro b hb
   rcases B.zs b hb with h|⟨n,h⟩
   ·exact A.zs b h
   ·exact .inr ⟨n,A.sub n b h⟩
  ·intro m s hs
   obtain⟨s',hs'⟩:=A.val m s hs
   exact B.val m s' hs'
end
end Go.VS
namespace Go.VS
section
variable{E:Env}{lam:Nat→Nat}{z:Nat→Prop}{fp:Ky→List Nat}{hd:Hands}{st:St}{tm:Array Value}{w:World}{ds:List Deferred}
theorem Sq(R:Ax E lam z fp Am st tm w){C':Ctx}(hC:(ctx E lam z st.hp.next).Le C'){V:Vis}(hs:∀m b,b∈fp (.s m)→C'.zb b)(ho:∀o b,V.sees o=false→b∈fp (.o o)→C'.zb b)
  {a a':AV} {v:Value} {f:List Nat} (hv:RV (ctx E lam z st.hp.next) w a v f) (hf:∀b,b∈f→C'.zb b∧C'.zt b) (hr:AR st tm w lam a v) (h:(st.Dy V a).holds (·=a')):
  RV C' w a' v []∧a'.solid=true:=by
 have same:a.Br=false→a'=a→a.solid=true→RV C' w a' v []∧a'.solid=true:=by
  rintro h1 rfl h2
  have:=hv.D0 h1
  rw[this]at hv
  exact⟨hv.frame hC (fun _ _=>rfl) (fun _ h=>nomatch h),h2⟩
 cases a with
 |ref p ver k lo n=>
  simp only[St.Dy]at h
  split at h
  case h_2=>exact h.elim
  rename_i k' xs hp
  simp only[M.Aa,M.Aj]at h
  obtain⟨himp,hver,hk,hlo,h⟩:=h
  subst hk
  rw[M.Ad]at h
  subst h
  obtain⟨xs',v0,q1,q2,q3⟩:=hr.2 hver
  rw[hp]at q1
  cases q1
  obtain⟨u,g,c1,c2,c3⟩:=R.I4 hp
  rw[q2]at c1
  cases c1
  obtain⟨f2,w1,w2,w3⟩:=HM c2 q3 hlo
  refine⟨RV.lend hC w1 (fun b hb=>?_),rfl⟩
  have:=c3 b (w3 b hb)
  cases hroot:p.root with
  |slot t j=>rw[hroot]at this;exact hs t b this
  |obj o c=>
   rw[hroot]at this
   rw[hroot]at himp
   exact ho o b (by simpa[Root.hid]using himp) this
 |sl τ k xs=>
  cases τ with
  |own=>
   simp only[St.Dy]at h
   rw[M.Ad]at h
   subst h
   exact⟨RV.frz hC hv hf,rfl⟩
  |imm=>simp only[St.Dy]at h;rw[M.Ad]at h;exact same rfl h.symm rfl
  |brw=>simp only[St.Dy]at h;rw[M.Ad]at h;exact same rfl h.symm rfl
 |lit v=>simp only[St.Dy]at h;rw[M.Ad]at h;exact same rfl h.symm rfl
 |ptr o c=>simp only[St.Dy]at h;rw[M.Ad]at h;exact same rfl h.symm rfl
 |clo nm caps=>simp only[St.Dy]at h;rw[M.Ad]at h;exact same rfl h.symm rfl
 |adr=>exact h.elim
 |iadr=>exact h.elim
 |dead=>exact h.elim
theorem Mn(R:Ax E lam z fp Am st tm w){C':Ctx}(hC:(ctx E lam z st.hp.next).Le C'){V:Vis}(hs:∀m b,b∈fp (.s m)→C'.zb b)(ho:∀o b,V.sees o=false→b∈fp (.o o)→C'.zb b):
  ∀{l l':List AV} {m:List Value} {f:List Nat},RVs (ctx E lam z st.hp.next) w l m f→(∀b,b∈f→C'.zb b∧C'.zt b)→(∀(j:Nat) (a:AV) (u:Value),l[j]?=some a→m[j]?=some u→AR st tm w lam a u)→
   (st.EA V l).holds (·=l')→RVs C' w l' m []∧l'.all AV.solid=true∧l'.length=l.length
 |[],l',m,f,hv,hf,hr,h=>by
  simp only[St.EA]at h
  rw[M.Ad]at h
  subst h
  cases m with
  |nil=>exact⟨.nil,rfl,rfl⟩
  |cons=>have:=hv.length;simp at this
 |a::l,l',m,f,hv,hf,hr,h=>by
  simp only[St.EA,M.Aa]at h
  rw[M.Aw]at h
  obtain⟨b,h1,h⟩:=h
  rw[M.Aw]at h
  obtain⟨l2,h2,h⟩:=h
  rw[M.Ad]at h
  subst h
  cases hv with
  |cons _ v f1 _ m' f2 ha ht=>
   obtain⟨r1,s1⟩:=Sq R hC hs ho ha (fun b hb=>hf b (by simp[hb])) (hr 0 a v rfl rfl) h1
   obtain⟨r2,s2,e2⟩:=Mn R hC hs ho ht (fun b hb=>hf b (by simp[hb])) (fun j a u hj hu=>hr (j+1) a u hj hu) h2
   exact⟨.cons _ v [] _ m' [] r1 r2,by simp[s1,s2],by simp[e2]⟩
theorem Yf(R:Ax E lam z fp Am st tm w)(F:Refs st tm w lam){C':Ctx}(hC:(ctx E lam z st.hp.next).Le C'){V:Vis}(hs:∀m b,b∈fp (.s m)→C'.zb b)(ho:∀o b,V.sees o=false→b∈fp (.o o)→C'.zb b)
  {o:Operand} {x:Opd} (hop:AA E.P o=some x) (hz:∀n s,x=.t n→st.sl n=.val true s→∀b,b∈fp (.s n)→C'.zt b) {s:SV} (h:(st.arg V true x).holds (·=s)) (ds:List Deferred):
  RSV C' w s (Act.eval ⟨tm,ds⟩ o) []∧s.cells.all AV.solid=true:=by
 have hP:C'.P=E.P:=hC.P
 cases o with
 |global n=>simp[AA]at hop
 |func f=>
  simp only[AA,Option.map_eq_some_iff]at hop
  obtain⟨fn,hf,rfl⟩:=hop
  simp only[St.arg]at h
  rw[M.Ad]at h
  subst h
  exact⟨RV.clo (fn.name,false) [] f fn [] (by rw[hP];exact hf) rfl .nil,rfl⟩
 |const v=>
  simp only[AA]at hop
  split at hop
  case isFalse=>cases hop
  rename_i h1
  simp only[Option.some.injEq]at hop
  subst hop
  simp only[St.arg]at h
  rw[M.Ad]at h
  subst h
  exact⟨RV.lit v h1,rfl⟩
 |tmp n=>
  simp only[AA,Option.some.injEq]at hop
  subst hop
  simp only[St.arg]at h
  split at h
  case h_2=>exact h.elim
  rename_i b s0 hsl
  simp only[M.Aa,M.Aj]at h
  obtain⟨hb,h⟩:=h
  obtain rfl:=hb trivial
  rw[M.Aw]at h
  obtain⟨l,h1,h⟩:=h
  rw[M.Ad]at h
  subst h
  have hk:=R.keys (.s n)
  simp only[AB,hsl]at hk
  have hv:=hk.1 rfl
  obtain⟨r1,r2,r3⟩:=Mn R hC hs ho hv.cells (fun b hb=>⟨hs n b hb,hz n s0 rfl hsl b hb⟩) (F n s0 hsl) h1
  obtain⟨f1,f2,f3⟩:=hv.fits r3
  exact⟨f1 C' w [] (by rw[f2,f3];exact r1),by rw[f2];exact r2⟩
theorem MV(R:Ax E lam z fp Am st tm w)(F:Refs st tm w lam){C':Ctx}(hC:(ctx E lam z st.hp.next).Le C'){V:Vis}(hs:∀m b,b∈fp (.s m)→C'.zb b)(ho:∀o b,V.sees o=false→b∈fp (.o o)→C'.zb b)(ds:List Deferred):
  ∀{os:List Operand} {xs:List Opd} {args:List SV},Dr E.P os=some xs→(∀n s,.t n∈xs→st.sl n=.val true s→∀b,b∈fp (.s n)→C'.zt b)→(st.args V true xs).holds (·=args)→
   args.length=os.length∧∀(t:Nat) (s:SV),args[t]?=some s→∃o,os[t]?=some o∧RSV C' w s (Act.eval ⟨tm,ds⟩ o) []∧s.cells.all AV.solid=true
 |[],xs,args,hop,hz,h=>by
  simp only[Dr,Option.some.injEq]at hop
  subst hop
  simp only[St.args]at h
  rw[M.Ad]at h
  subst h
  exact⟨rfl,fun t s hs=>by simp at hs⟩
 |o::os,xs,args,hop,hz,h=>by
  simp only[Dr]at hop
  split at hop
  case h_2=>cases hop
  rename_i y l hy hl
  cases hop
  simp only[St.args,M.Aa]at h
  rw[M.Aw]at h
  obtain⟨a,h1,h⟩:=h
  rw[M.Aw]at h
  obtain⟨l',h2,h⟩:=h
  rw[M.Ad]at h
  subst h
  obtain⟨r1,r2⟩:=Yf R F hC hs ho hy (fun n s hx=>hz n s (by simp[hx])) h1 ds
  obtain⟨e,r⟩:=MV R F hC hs ho ds hl (fun n s hx=>hz n s (by simp[hx])) h2
  refine⟨by simp[e],fun t s ht=>?_⟩
  cases t with
  |zero=>simp at ht;subst ht;exact⟨o,rfl,r1,r2⟩
  |succ t=>simpa using r t s (by simpa using ht)
def MR(V:Vis)(fp:Ky→List Nat):Nat→Prop:=fun b=>∃o,V.sees o=true∧b∈fp (.o o)
def callee(E:Env)(lam:Nat→Nat)(z1:Nat→Prop)(fp1:Ky→List Nat)(w:World)(V:Vis)(nx nt:Nat):Env:=⟨E.P,w,MR V fp1,fun b=>E.i0 b∨z1 b,nt,nx,lam,E.lw⟩
theorem VO(R:Ax E lam z fp Am st tm w){st1:St}{z1:Nat→Prop}{fp1:Ky→List Nat}(R1:Ax E lam z1 fp1 Am st1 tm w)(hz:∀b,z b→z1 b)(hhp:st1.hp=st.hp)(hfo:∀o,fp1 (.o o)=fp (.o o))
  {V:Vis} {vs:Array Value} {args:List SV} (hlen:vs.size=args.length) (hargs:∀(t:Nat) (s:SV),args[t]?=some s→∃v,vs[t]?=some v∧RSV (ctx (callee E lam z1 fp1 w V st.hp.next vs.size) lam (fun _=>False) st.hp.next) w s v []):
  Ax (callee E lam z1 fp1 w V st.hp.next vs.size) lam (fun _=>False) (fun κ=>match κ with|.o o=>if V.sees o then fp1 (.o o)else[]|_=>[]) Am (start args (st.hp.shown V)) vs w:=by
 have hnx:(start args (st.hp.shown V)).hp.next=st.hp.next:=rfl
 have hle:(ctx E lam z1 st.hp.next).Le (ctx (callee E lam z1 fp1 w V st.hp.next vs.size) lam (fun _=>False) st.hp.next):=
  ⟨rfl,fun _ _=>rfl,Nat.le_refl _,fun b hb=>.inl hb,fun b hb=>.inl ⟨R1.Ty hb,fun⟨o,_,ho⟩=>R1.Rt ho hb⟩⟩
 refine⟨?_,⟨?_,?_,?_⟩,fun _ h=>h.elim,fun _ _ _=>rfl,rfl,rfl,rfl,Nat.le_refl _,rfl,⟨by rw[hnx];exact Nat.le_refl _,fun _ _=>rfl⟩,?_⟩
 ·intro κ
  rw[hnx]
  cases κ with
  |s t=>
   simp only[AB,start]
   cases ht:args[t]?with
   |none=>rfl
   |some s=>
    obtain⟨v,hv,hr⟩:=hargs t s ht
    have:vs.getD t undef=v:=by simp[Array.getD_eq_getD_getElem?,hv]
    rw[this]
    exact⟨fun _=>hr,fun h=>nomatch h⟩
  |o o=>
   intro l hl
   simp only[start,Heap.shown]at hl
   split at hl
   case isFalse=>cases hl
   rename_i hv
   have:=(R1.keys (.o o)).frame (w':=w) (by rw[hhp];exact hle) (fun _ _=>rfl) (fun _ _=>rfl)
   simp only[hv,if_true]
   exact this l (by rw[hhp];exact hl)
  |h i=>exact RVs.nil
 ·intro κ
  cases κ with
  |o o=>
   dsimp only
   split
   ·exact R1.fps.nod _
   ·exact List.nodup_nil
  |_=>exact List.nodup_nil
 ·intro κ κ' b hne hb hb'
  cases κ with
  |o o=>
   cases κ' with
   |o o'=>
    dsimp only at hb hb'
    split at hb
    ·split at hb'
     ·exact R1.fps.dis _ _ b (by intro e;exact hne e) hb hb'
     ·cases hb'
    ·cases hb
   |_=>cases hb'
  |_=>cases hb
 ·intro κ b hb
  cases κ with
  |o o=>
   dsimp only at hb
   split at hb
   ·rename_i hi
    exact⟨(R1.fps.ok _ b hb).1,.inl ⟨o,hi,hb⟩,id⟩
   ·cases hb
  |_=>cases hb
 ·have key:∀b,b<E.w0.heap.size∧¬E.f0 b→b<w.heap.size∧¬MR V fp1 b:=by
   intro b h1
   refine⟨Nat.lt_of_lt_of_le h1.1 R1.size,fun⟨o,_,ho⟩=>?_⟩
   rcases(R1.fps.ok _ b ho).2.1 with h|h
   ·exact h1.2 h
   ·have:=h1.1;omega
  refine⟨?_,fun b hb=>key b (R1.i0.lt b hb),fun b hb=>(R1.frame b (R1.i0.lt b hb).1 (R1.i0.lt b hb).2).trans (R1.i0.eq b hb),R1.i0.good⟩
  rintro b (hb|hb)
  ·exact key b (R1.i0.own b hb)
  ·exact⟨(R1.z b hb).1,fun⟨o,_,ho⟩=>(R1.fps.ok _ b ho).2.2 hb⟩
end
end Go.VS
namespace Go.VS
def St.GM(st:St)(dst:Option Nat)(x:TV):St:=
 match dst with
 |some d=>st.set d x
 |none=>st
def Heap.merge(h:Heap)(V:Vis)(H':Heap):Heap:=⟨fun o=>if V.sees o||decide (h.next≤o)then H'.get o else h.get o,H'.next⟩
def St.after(st1:St)(V:Vis)(H':Heap)(dst:Option Nat)(r:TV):St:=
 St.GM ⟨st1.sl,if V.isSome then st1.hp.merge V H' else st1.hp,st1.vs,if V.isSome then st1.hv+1 else st1.hv⟩ dst r
section
variable{E:Env}{lam:Nat→Nat}{z:Nat→Prop}{fp:Ky→List Nat}{hd:Hands}{st:St}{tm:Array Value}{w:World}{ds:List Deferred}
theorem D5.turn{C C':Ctx}:∀{l:List SV} {m:List Value} {f:List Nat},D5 C w l m f→(∀s v f,s∈l→RSV C w s v f→RSV C' w s v f)→D5 C' w l m f
 |[],[],_,h,_=>h
 |[],_::_,_,h,_=>h.elim
 |_::_,[],_,h,_=>h.elim
 |s::l,v::m,f,h,hk=>by
  obtain⟨f1,f2,e,h1,h2⟩:=h
  exact⟨f1,f2,e,hk s v f1 (by simp) h1,h2.turn (fun s v f hs=>hk s v f (by simp[hs]))⟩
theorem SC{a:AV}(h:a.free=true):a.solid=true:=by cases a<;>first|rfl|simp[AV.free]at h
theorem Xk{st1:St}{z1:Nat→Prop}{fp1:Ky→List Nat}(R1:Ax E lam z1 fp1 Am st1 tm w)(F1:Refs st1 tm w lam){V:Vis}{r:TV}{H':Heap}{v:Value}{w':World}{lam':Nat→Nat}{z':Nat→Prop}{fp':Ky→List Nat}{n:Nat}
  (R':Ax (callee E lam z1 fp1 w V st1.hp.next n).one lam' z' fp' Am (fin r H') #[v] w') (hk:r.kept=true) (hfree:V.isSome=true→H'.Free) (hpl:V.isSome=false→r.plain=true) {dst:Option Nat} (hd:∀d,dst=some d→d<E.nt):
  Rel E (st1.after V H' dst r) (Hu tm dst v) w':=by
 have hbase:=R'.base
 simp only[Env.one,callee,fin]at hbase
 have hsz:w.heap.size≤w'.heap.size:=R'.size
 have hsame:∀b,b<w.heap.size→¬MR V fp1 b→w'.heap[b]?=w.heap[b]?:=fun b h1 h2=>R'.frame b h1 h2
 generalize himp:V.isSome=imp at hfree hpl
 let lam2:Nat→Nat:=if imp then lam' else lam
 let z2:Nat→Prop:=fun b=>z1 b∨z' b
 let H2:Heap:=if imp then st1.hp.merge V H' else st1.hp
 have hlam:∀o,o<st1.hp.next→lam2 o=lam o:=by
  intro o ho
  cases imp with
  |true=>exact hbase.2 o ho
  |false=>rfl
 have hnx:st1.hp.next≤H2.next:=by
  cases imp with
  |true=>exact hbase.1
  |false=>exact Nat.le_refl _
 have hseen:∀nx,(ctx (callee E lam z1 fp1 w V st1.hp.next n).one lam' z' H'.next).Seen (ctx E lam2 z2 nx):=by
  intro nx
  refine⟨rfl,?_,?_⟩
  ·rintro b ((hb|hb)|hb)
   ·exact .inl hb
   ·exact .inr (.inl hb)
   ·exact .inr (.inr hb)
  ·rintro b (hb|hb)
   ·exact .inl (R1.i0.own b hb)
   ·exact .inr hb
 have hle:(ctx E lam z1 st1.hp.next).Le (ctx E lam2 z2 H2.next):=⟨rfl,hlam,hnx,fun b hb=>hb.imp id .inl,fun b hb=>hb.imp id .inl⟩
 have hzs:∀b,(ctx E lam z1 st1.hp.next).zb b→w'.heap[b]?=w.heap[b]?:=fun b hb=>hsame b (R1.Ty hb) (fun⟨o,_,ho⟩=>R1.Rt ho hb)
 have hslot:∀t b,b∈fp1 (.s t)→w'.heap[b]?=w.heap[b]?∧¬MR V fp1 b:=by
  intro t b hb
  have:¬MR V fp1 b:=fun⟨o,_,ho⟩=>R1.fps.dis (.s t) (.o o) b (by simp) hb ho
  exact⟨hsame b (R1.fps.ok _ b hb).1 this,this⟩
 have hobj:∀o b,V.sees o=false→b∈fp1 (.o o)→w'.heap[b]?=w.heap[b]?∧¬MR V fp1 b:=by
  intro o b hv hb
  have:¬MR V fp1 b:=fun⟨o',hv',ho⟩=>R1.fps.dis (.o o) (.o o') b (by intro e;cases e;rw[hv]at hv';cases hv') hb ho
  exact⟨hsame b (R1.fps.ok _ b hb).1 this,this⟩
 have hk0:=R'.keys (.s 0)
 simp only[AB,fin,if_true]at hk0
 have hres:RTV (ctx E lam2 z2 H2.next) w' r v (fp' (.s 0)):=by
  have hv0:(#[v]:Array Value).getD 0 undef=v:=rfl
  rw[hv0]at hk0
  cases imp with
  |true=>
   have hC:(ctx (callee E lam z1 fp1 w V st1.hp.next n).one lam' z' H'.next).Kept (ctx E lam' z2 H'.next):=⟨hseen _,rfl,rfl⟩
   cases r with
   |dead=>simp[TV.kept]at hk
   |val g s=>
    cases g with
    |false=>simp[TV.kept]at hk
    |true=>
     refine⟨fun _=>?_,fun h=>nomatch h⟩
     have h1:=hk0.1 rfl
     cases s with
     |one a=>exact RV.Gt hC h1 (by simpa[TV.kept,SV.cells,BJ]using hk)
     |agg l=>obtain⟨cs,e,h1⟩:=h1;exact⟨cs,e,RVs.Gt hC h1 (by simpa[TV.kept,SV.cells]using hk)⟩
   |tup l=>
    obtain⟨vs,e,h1⟩:=hk0
    refine⟨vs,e,h1.turn fun s u f hs h2=>?_⟩
    have:=List.all_eq_true.1 (show(l.all fun s=>BJ s.cells)=true from hk) s hs
    cases s with
    |one a=>exact RV.Gt hC h2 (by simpa[SV.cells,BJ]using this)
    |agg l=>obtain⟨cs,e,h2⟩:=h2;exact⟨cs,e,RVs.Gt hC h2 (by simpa[SV.cells]using this)⟩
  |false=>
   have hC:=hseen st1.hp.next
   have hp:=hpl rfl
   cases r with
   |dead=>simp[TV.kept]at hk
   |val g s=>
    cases g with
    |false=>simp[TV.kept]at hk
    |true=>
     refine⟨fun _=>?_,fun h=>nomatch h⟩
     have h1:=hk0.1 rfl
     cases s with
     |one a=>exact RV.C9 hC h1 (by simpa[TV.plain,SV.cells,A6]using hp)
     |agg l=>obtain⟨cs,e,h1⟩:=h1;exact⟨cs,e,RVs.C9 hC h1 (by simpa[TV.plain,SV.cells]using hp)⟩
   |tup l=>
    obtain⟨vs,e,h1⟩:=hk0
    refine⟨vs,e,h1.turn fun s u f hs h2=>?_⟩
    have:=List.all_eq_true.1 (show(l.all fun s=>A6 s.cells)=true from hp) s hs
    cases s with
    |one a=>exact RV.C9 hC h2 (by simpa[SV.cells,A6]using this)
    |agg l=>obtain⟨cs,e,h2⟩:=h2;exact⟨cs,e,RVs.C9 hC h2 (by simpa[SV.cells]using this)⟩
 let sl2:Nat→TV:=fun t=>if dst=some t then r else st1.sl t
 let fp2:Ky→List Nat:=fun κ=>match κ with
  |.o o=>if imp&&(V.sees o||decide (st1.hp.next≤o))then fp' (.o o)else fp1 (.o o)
  |.s t=>if dst=some t then fp' (.s 0)else fp1 (.s t)
  |.h _=>[]
 have hnew:∀κ b,b∈fp' κ→b<w'.heap.size∧(MR V fp1 b∨w.heap.size≤b)∧¬z' b:=fun κ b hb=>R'.fps.ok κ b hb
 have hz'new:∀b,z' b→b<w'.heap.size∧(MR V fp1 b∨w.heap.size≤b):=fun b hb=>R'.z b hb
 have kind:∀κ b,b∈fp2 κ→(∃κ',κ'≠.h 0∧b∈fp' κ'∧(κ'=.s 0∧(∃d,κ=.s d∧dst=some d)∨κ'=κ∧imp=true∧∃o,κ=.o o))∨(b∈fp1 κ∧¬MR V fp1 b):=by
  intro κ b hb
  cases κ with
  |o o=>
   simp only[fp2]at hb
   split at hb
   ·rename_i hi
    exact .inl ⟨.o o,by simp,hb,.inr ⟨rfl,(by simp only[Bool.and_eq_true]at hi;exact hi.1),o,rfl⟩⟩
   ·rename_i hi
    refine .inr ⟨hb,(hobj o b ?_ hb).2⟩
    cases hv:V.sees o with
    |false=>rfl
    |true=>
     exfalso
     apply hi
     simp only[hv,Bool.true_or,Bool.and_true]
     rw[←himp]
     cases V with
     |none=>cases hv
     |some v=>rfl
  |s t=>
   simp only[fp2]at hb
   split at hb
   ·rename_i ht
    exact .inl ⟨.s 0,by simp,hb,.inl ⟨rfl,t,rfl,ht⟩⟩
   ·exact .inr ⟨hb,(hslot t b hb).2⟩
  |h i=>cases hb
 have own1:∀b,MR V fp1 b→(E.f0 b∨E.w0.heap.size≤b)∧b<w.heap.size∧¬z1 b:=fun b ⟨o,_,ho⟩=>⟨(R1.fps.ok _ b ho).2.1,(R1.fps.ok _ b ho).1,(R1.fps.ok _ b ho).2.2⟩
 have hR:Ax E lam2 z2 fp2 Am ⟨sl2,H2,(st1.after V H' dst r).vs,(st1.after V H' dst r).hv⟩ (Hu tm dst v) w':=by
  refine⟨?_,⟨?_,?_,?_⟩,?_,?_,R'.os.trans R1.os,R'.tape.trans R1.tape,R'.output.trans R1.output,Nat.le_trans R1.size hsz,?_,?_,R1.i0⟩
  ·intro κ
   cases κ with
   |s t=>
    simp only[AB,sl2,fp2]
    by_cases ht:dst=some t
    ·rw[if_pos ht,if_pos ht]
     have hlt:=hd t ht
     have:(Hu tm dst v).getD t undef=v:=by rw[ht];simp[Hu,R1.tsz,hlt]
     rw[this]
     exact hres
    ·rw[if_neg ht,if_neg ht]
     have:(Hu tm dst v).getD t undef=tm.getD t undef:=by
      cases hdd:dst with
      |none=>rfl
      |some d=>
       have hne:d≠t:=fun e=>ht (by rw[hdd,e])
       simp only[Hu,Array.getD_eq_getD_getElem?]
       rw[Array.getElem?_setIfInBounds_ne hne]
     rw[this]
     exact RTV.frame hle hzs (R1.keys (.s t)) (fun b hb=>(hslot t b hb).1)
   |o o=>
    intro l hl
    cases hbr:(imp&&(V.sees o||decide (st1.hp.next≤o)))with
    |true=>
     have himp2:imp=true:=by simp only[Bool.and_eq_true]at hbr;exact hbr.1
     subst himp2
     have hl:H'.get o=some l:=by
      simp only[Bool.true_and]at hbr
      simpa only[H2,if_true,Heap.merge,hbr]using hl
     obtain⟨h1,cs,e,f',h2,h3,h4⟩:=R'.keys (.o o) l hl
     simp only[fp2,hbr,if_true]
     have hC:(ctx (callee E lam z1 fp1 w V st1.hp.next n).one lam' z' H'.next).Kept (ctx E lam' z2 H'.next):=⟨hseen _,rfl,rfl⟩
     exact⟨h1,cs,e,f',h2,RVs.Gt hC h3 (hfree rfl o l hl),h4⟩
    |false=>
     have hv:V.sees o=false:=by
      cases V with
      |none=>rfl
      |some v=>
       rw[←himp]at hbr
       simp only[Option.isSome_some,Bool.true_and,Bool.or_eq_false_iff]at hbr
       exact hbr.1
     have hl:st1.hp.get o=some l:=by
      cases himp2:imp with
      |false=>simpa only[H2,himp2,Bool.false_eq_true,if_false]using hl
      |true=>
       rw[himp2,Bool.true_and]at hbr
       simpa only[H2,himp2,if_true,Heap.merge,hbr,Bool.false_eq_true,if_false]using hl
     have:=(R1.keys (.o o)).frame (C:=ctx E lam z1 st1.hp.next) (C':=ctx E lam2 z2 H2.next) (w':=w') hle hzs (fun b hb=>(hobj o b hv hb).1)
     simp only[fp2,hbr]
     exact this l hl
   |h i=>exact RVs.nil
  ·intro κ
   cases κ with
   |o o=>
    simp only[fp2]
    split
    ·exact R'.fps.nod _
    ·exact R1.fps.nod _
   |s t=>
    simp only[fp2]
    split
    ·exact R'.fps.nod _
    ·exact R1.fps.nod _
   |h i=>exact List.nodup_nil
  ·intro κ κ' b hne hb hb'
   rcases kind κ b hb with⟨k1,_,m1,q1⟩|⟨m1,n1⟩<;>rcases kind κ' b hb' with⟨k2,_,m2,q2⟩|⟨m2,n2⟩
   ·refine R'.fps.dis k1 k2 b ?_ m1 m2
    rintro rfl
    rcases q1 with⟨rfl,d,rfl,hd1⟩|⟨rfl,_,o,ho⟩
    ·rcases q2 with⟨_,d2,rfl,hd2⟩|⟨e,_,o,ho⟩
     ·rw[hd1]at hd2;cases hd2;exact hne rfl
     ·rw[ho]at e;cases e
    ·rcases q2 with⟨e,_⟩|⟨e,_⟩
     ·rw[ho]at e;cases e
     ·exact hne e
   ·rcases(hnew k1 b m1).2.1 with h|h
    ·exact n2 h
    ·have:=(R1.fps.ok _ b m2).1;omega
   ·rcases(hnew k2 b m2).2.1 with h|h
    ·exact n1 h
    ·have:=(R1.fps.ok _ b m1).1;omega
   ·exact R1.fps.dis κ κ' b hne m1 m2
  ·intro κ b hb
   rcases kind κ b hb with⟨k1,_,m1,q1⟩|⟨m1,n1⟩
   ·obtain⟨a1,a2,a3⟩:=hnew k1 b m1
    refine⟨a1,?_,?_⟩
    ·rcases a2 with h|h
     ·exact(own1 b h).1
     ·exact .inr (Nat.le_trans R1.size h)
    ·rintro(h|h)
     ·rcases a2 with h2|h2
      ·exact(own1 b h2).2.2 h
      ·have:=(R1.z b h).1;omega
     ·exact a3 h
   ·obtain⟨a1,a2,a3⟩:=R1.fps.ok κ b m1
    refine⟨Nat.lt_of_lt_of_le a1 hsz,a2,?_⟩
    rintro(h|h)
    ·exact a3 h
    ·rcases(hz'new b h).2 with h2|h2
     ·exact n1 h2
     ·omega
  ·rintro b (hb|hb)
   ·exact⟨Nat.lt_of_lt_of_le (R1.z b hb).1 hsz,(R1.z b hb).2⟩
   ·refine⟨(hz'new b hb).1,?_⟩
    rcases(hz'new b hb).2 with h|h
    ·exact(own1 b h).1
    ·exact .inr (Nat.le_trans R1.size h)
  ·intro b hb hf
   rw[hsame b (Nat.lt_of_lt_of_le hb R1.size) (fun h=>by
    rcases(own1 b h).1 with h1|h1
    ·exact hf h1
    ·omega)]
   exact R1.frame b hb hf
  ·cases dst with
   |none=>exact R1.tsz
   |some d=>simpa[Hu]using R1.tsz
  ·exact⟨Nat.le_trans R1.base.1 hnx,fun o ho=>(hlam o (Nat.lt_of_lt_of_le ho R1.base.1)).trans (R1.base.2 o ho)⟩
 have hF0:Refs ⟨st1.sl,H2,st1.vs,if imp then st1.hv+1 else st1.hv⟩ tm w' lam2:=by
  intro t s hs j a u hj hu
  have h0:=F1 t s hs j a u hj hu
  have place:∀(p:Place) (k:Nat) (xs:List (List AV)) (u0:Value),(∀o c,p.root=.obj o c→imp=false)→st1.at p=some (.sl .own k xs)→conc st1 tm w lam p=some u0→
    St.at ⟨st1.sl,H2,st1.vs,if imp then st1.hv+1 else st1.hv⟩ p=some (.sl .own k xs)∧conc ⟨st1.sl,H2,st1.vs,if imp then st1.hv+1 else st1.hv⟩ tm w' lam2 p=some u0:=by
   intro p k xs u0 hi h1 h2
   have hb:∀b,b∈fp1 p.root.key→w'.heap[b]?=w.heap[b]?:=by
    intro b hb
    cases hr:p.root with
    |slot t' j'=>rw[hr]at hb;exact(hslot t' b hb).1
    |obj o c=>
     rw[hr]at hb
     have:=hi o c hr
     subst this
     refine hsame b (R1.fps.ok _ b hb).1 ?_
     cases V with
     |none=>exact fun⟨_,h,_⟩=>nomatch h
     |some v=>cases himp
   have h3:=E4 R1 h1 hb
   rw[←h3]at h2
   cases hr:p.root with
   |slot t' j'=>
    refine⟨?_,?_⟩
    ·simp only[St.at,hr]at h1⊢;exact h1
    ·simp only[conc,hr]at h2⊢;exact h2
   |obj o c=>
    have hi0:=hi o c hr
    subst hi0
    exact⟨h1,h2⟩
  have hver:∀r0:Root,St.ver ⟨st1.sl,H2,st1.vs,if imp then st1.hv+1 else st1.hv⟩ r0=st1.ver r0∨(imp=true∧(∃o c,r0=.obj o c)∧st1.ver r0<St.ver ⟨st1.sl,H2,st1.vs,if imp then st1.hv+1 else st1.hv⟩ r0):=by
   intro r0
   cases r0 with
   |slot=>exact .inl rfl
   |obj o c=>
    cases imp with
    |true=>exact .inr ⟨rfl,⟨o,c,rfl⟩,by simp[St.ver]⟩
    |false=>exact .inl rfl
  cases a with
  |ref p ver k lo n=>
   obtain⟨h1,h2⟩:=h0
   rcases hver p.root with hv|⟨_,_,hv⟩
   ·refine⟨by rw[hv];exact h1,fun he=>?_⟩
    rw[hv]at he
    obtain⟨xs,v0,q1,q2,q3⟩:=h2 he
    obtain⟨p1,p2⟩:=place p k xs v0 (fun o c hr=>by
     cases himp2:imp with
     |false=>rfl
     |true=>
      subst himp2
      rw[hr]at hv
      simp[St.ver]at hv) q1 q2
    exact⟨xs,v0,p1,p2,q3⟩
   ·exact⟨by omega,fun he=>by omega⟩
  |adr p ver k i c=>
   obtain⟨h1,h2⟩:=h0
   rcases hver p.root with hv|⟨_,_,hv⟩
   ·refine⟨by rw[hv];exact h1,fun he=>?_⟩
    rw[hv]at he
    obtain⟨xs,b,off,len,cap,q1,q2,q3⟩:=h2 he
    obtain⟨p1,p2⟩:=place p k xs _ (fun o c hr=>by
     cases himp2:imp with
     |false=>rfl
     |true=>
      subst himp2
      rw[hr]at hv
      simp[St.ver]at hv) q1 q2
    exact⟨xs,b,off,len,cap,p1,p2,q3⟩
   ·exact⟨by omega,fun he=>by omega⟩
  |_=>exact trivial
 refine⟨lam2,z2,fp2,?_,?_⟩
 ·have e:(st1.after V H' dst r).sl=sl2:=by
   funext t
   cases hdd:dst with
   |none=>simp[St.after,St.GM,sl2,hdd]
   |some d=>
    by_cases h:t=d
    ·subst h;simp[St.after,St.GM,St.set,upd,sl2,hdd]
    ·simp[St.after,St.GM,St.set,upd,sl2,hdd,h,Ne.symm h]
  have e2:(st1.after V H' dst r).hp=H2:=by cases hdd:dst<;>simp only[St.after,St.GM,St.set,H2,himp]
  rw[←e,←e2]at hR
  exact hR
 ·have eaft:st1.after V H' dst r=St.GM ⟨st1.sl,H2,st1.vs,if imp then st1.hv+1 else st1.hv⟩ dst r:=by simp only[St.after,himp,H2]
  rw[eaft]
  cases hdd:dst with
  |none=>exact hF0
  |some d=>
   have hdl:d<tm.size:=by rw[R1.tsz];exact hd d hdd
   cases r with
   |val g s=>
    cases g with
    |true=>
     refine hF0.set hdl ?_
     intro j a u hj _
     refine HQ (SC ?_)
     have:BJ s.cells=true:=by simpa[TV.kept]using hk
     rw[Nz]at this
     exact List.all_eq_true.1 this a (List.mem_of_getElem? hj)
    |false=>exact hF0.He (fun s h=>by cases h)
   |tup l=>exact hF0.He (fun s h=>by cases h)
   |dead=>exact hF0.He (fun s h=>by cases h)
end
end Go.VS
namespace Go.VS
section
variable{E:Env}{lam:Nat→Nat}{z:Nat→Prop}{fp:Ky→List Nat}{hd:Hands}{st:St}{tm:Array Value}{w:World}{ds:List Deferred}
theorem NU{P:Pg}{o:Oper}{n:Nat}(ho:Lf P o=some (.mv (.t n))):o.op=.move (.tmp n):=by
 unfold Lf at ho
 split at ho
 case h_1=>
  rename_i x hop
  simp only[Option.map_eq_some_iff]at ho
  obtain⟨a,ha,he⟩:=ho
  cases he
  cases x with
  |tmp m=>simp only[AA,Option.some.injEq,Opd.t.injEq]at ha;subst ha;exact hop
  |const v=>simp only[AA]at ha;split at ha<;>cases ha
  |func f=>simp only[AA,Option.map_eq_some_iff]at ha;obtain⟨_,_,h⟩:=ha;cases h
  |global n=>simp[AA]at ha
 case h_22=>
  rcases DU ho with⟨f,fn,l,hc,_,_,_,_,h⟩|⟨t,l,hc,_,h⟩|⟨x,t,a,e,_,ha,ht,h⟩|⟨x,t,a,_,ha,ht,h⟩|⟨x,t,n,e,_,ht,h⟩|⟨_,_,_,_,_,_,_,_,_,_,_,_,_,_,_,_,_,_,_,_,h⟩|⟨mx,x,y,ts,a,b,_,ha,hb,h⟩<;>cases h
 case h_25=>cases ho
 all_goals try unfold Mr at ho
 all_goals try unfold G7 at ho
 all_goals repeat' split at ho
 all_goals first
  |(simp only[Option.map_eq_some_iff]at ho;obtain⟨_,_,h⟩:=ho;cases h;done)
  |(cases ho;done)
def St.Pm(st:St)(n d:Nat)(l:List SV):St:=(st.set n .dead).set d (.tup l)
theorem NV{P:Pg}{o:Oper}{n:Nat}(h:o.op=.move (.tmp n))(w:World):(execOp (Act.eval ⟨tm,ds⟩) o).run P w=.ok (.value (tm.getD n undef)) w:=by
 simp[execOp,h,Act.eval]
theorem Rp(R:Rel E st tm w){n d:Nat}{l:List SV}(hsl:st.sl n=.tup l)(hd:d<E.nt)(hne:n≠d):Rel E (st.Pm n d l) (Hu tm (some d) (tm.getD n undef)) w:=by
 obtain⟨lam,z,fp,R,F⟩:=R
 have hk:=R.keys (.s n)
 simp only[AB,hsl]at hk
 have R1:=R.pass (.s n) (.s d) (by simp[Ne.symm hne]) (Moves.refl _ w) (hd':=Am) (st':=st.Pm n d l) (tm':=tm.setIfInBounds d (tm.getD n undef)) rfl Array.size_setIfInBounds (by
   intro κ' h1 h2 C u g hK
   cases κ' with
   |s t'=>
    have hj:t'≠n:=fun e=>h1 (by rw[e])
    have hj2:t'≠d:=fun e=>h2 (by rw[e])
    have e:(tm.setIfInBounds d (tm.getD n undef)).getD t' undef=tm.getD t' undef:=by
     simp only[Array.getD_eq_getD_getElem?]
     rw[Array.getElem?_setIfInBounds_ne (fun e=>hj2 e.symm)]
    simpa only[AB,St.Pm,St.set,upd,if_neg hj,if_neg hj2,e]using hK
   |o o=>exact hK
   |h j=>exact hK) (f:=[]) (f1:=fp (.s n)) (by
    simp only[AB,St.Pm,St.set,upd,if_neg hne,if_true,RTV])
   (by
    have e:(tm.setIfInBounds d (tm.getD n undef)).getD d undef=tm.getD n undef:=by simp[R.tsz,hd]
    simp only[AB,St.Pm,St.set,upd,if_true,e]
    exact hk) List.nodup_nil (R.fps.nod _) (fun _ h=>nomatch h) (fun _ h=>nomatch h) (fun b hb=>.inl hb)
 refine⟨lam,z,_,R1,?_⟩
 have F1:Refs (st.set n .dead) tm w lam:=by
  have:=F.He (d:=n) (x:=.dead) (v:=tm.getD n undef) (fun s h=>nomatch h)
  rwa [Bw]at this
 exact F1.He (fun s h=>nomatch h)
end
end Go.VS
namespace Go.VS
def St.callee(st:St)(V:Vis):AOp→M (String×List SV)
 |.call f xs=>do
  let a←st.args V true xs
  pure (f,a)
 |.callv f xs=>do
  match←st.BX true f with
  |.clo nm caps=>do
   M.need (caps.all AV.solid=true)
   let a←st.args V true xs
   pure (nm.1,bif nm.2 then caps.map .one++a else a++caps.map .one)
  |_=>M.fail
 |_=>M.fail
def AOp.given:AOp→List Opd
 |.call _ xs=>xs
 |.callv _ xs=>xs
 |_=>[]
def Heap.Sub(H'' H':Heap):Prop:=H''.next=H'.next∧∀o,H''.get o=none∨H''.get o=H'.get o
def F0(P:Pg)(st:St)(dst:Option Nat)(op:AOp)(K:St→Prop):Prop:=
 ∃V:Vis,(st.callee V op).holds fun(nm,args)=>GN P nm args (st.hp.shown V) fun r H'=>∃H'':Heap,H''.Sub H'∧(V.isSome=true→H''.Free)∧(V.isSome=false→r.plain=true)∧K ((st.EF op.given).after V H'' dst r)
def Vm(P:Pg)(st:St):AOp→Prop
 |.panic x=>(st.BX true x).holds fun a=>∃t u,a=.lit (.iface t u)∧P.kp (.iface t u)
 |_=>False
def Ds(P:Pg)(g:GOp)(K:St→Prop)(st:St):Prop:=
 (st.guard g.guard).holds fun b=>
  (b=true→if g.op.HK then F0 P st g.dst g.op K else if g.op.isW then((st.Fv g.dst g.op).holds K∨Vm P st g.op)else((st.A5 true g.op).holds fun s=>K (st.GM g.dst (.val true s)))∨∃n d l,g.op=.mv (.t n)∧g.dst=some d∧n≠d∧st.sl n=.tup l∧K (st.Pm n d l))∧
  (b=false→∃s,K (st.GM g.dst (.val false s)))
def St.Le(st st':St):Prop:=∀E tm w,Rel E st tm w→Rel E st' tm w
def Wk(K:St→Prop)(st:St):Prop:=∃st',St.Le st st'∧K st'
def Fy(P:Pg):List GOp→(St→Prop)→St→Prop
 |[],K,st=>K st
 |g::l,K,st=>Ds P g (Wk (Fy P l K)) st
section
variable{E:Env}{st:St}{tm:Array Value}{w:World}{ds:List Deferred}{K:St→Prop}{next:Act→World→Prop}{Q:Exit→Act→World→Prop}{ops:Array Oper}
theorem Re(R:Rel E st tm w){o:Oper}{gd:Option (Nat×Bool)}(hg:guardOf ops o.guard=some gd){b:Bool}(h:(st.guard gd).holds (·=b)):Region.wanted o (yielded ops tm)=b:=by
 obtain⟨lam,z,fp,R,_⟩:=R
 unfold Region.wanted
 cases hgd:o.guard with
 |none=>
  rw[hgd]at hg
  simp only[guardOf,Option.some.injEq]at hg
  subst hg
  simp only[St.guard]at h
  rw[M.Ad]at h
  exact h
 |some jw=>
  obtain⟨j,want⟩:=jw
  rw[hgd]at hg
  simp only[guardOf]at hg
  split at hg
  case h_2=>cases hg
  rename_i t ht
  simp only[Option.some.injEq]at hg
  subst hg
  simp only[St.guard]at h
  split at h
  case h_2=>exact h.elim
  rename_i b0 c hsl
  rw[M.Ad]at h
  have hk:=R.keys (.s t)
  simp only[AB,hsl]at hk
  simp only[yielded,ht,Option.bind_some]
  cases b0 with
  |false=>
   have hu:=(hk.2 rfl).1
   simp only[Bool.false_and]at h
   subst h
   cases hg:tm[t]?with
   |none=>cases want<;>rfl
   |some v=>
    have:v=undef:=by rw[←hu];simp[Array.getD_eq_getD_getElem?,hg]
    subst this
    cases want<;>rfl
  |true=>
   have hv:tm.getD t undef=.bool c:=by
    have:=hk.1 rfl
    simp only[RSV]at this
    exact RV.B7 this
   cases hg:tm[t]?with
   |none=>rw[Array.getD_eq_getD_getElem?,hg]at hv;cases hv
   |some v=>
    have:v=.bool c:=by rw[←hv];simp[Array.getD_eq_getD_getElem?,hg]
    subst this
    simp only[Bool.true_and]at h
    subst h
    cases c<;>cases want<;>rfl
theorem Rel.skipped(R:Rel E st tm w){dst:Option Nat}(hd:∀d,dst=some d→d<E.nt)(s:SV):Rel E (st.GM dst (.val false s)) (Hu tm dst undef) w:=by
 cases hdd:dst with
 |none=>exact R
 |some d=>exact R.off (hd d hdd) s
theorem Rel.read{lam:Nat→Nat}{z:Nat→Prop}{fp:Ky→List Nat}(R:Ax E lam z fp Am st tm w)(F:Refs st tm w lam){s:SV}{dst:Option Nat}(hd:∀d,dst=some d→d<E.nt){v:Value}{w':World}
  (h:ROk E lam z st tm w s v w'):Rel E (st.GM dst (.val true s)) (Hu tm dst v) w':=by
 cases hdd:dst with
 |none=>
  obtain⟨f,hm,_⟩:=h
  exact⟨lam,z,fp,R.grow hm,F.grow R hm⟩
 |some d=>exact Rel.result R F h (hd d hdd)
theorem Xl(R:Rel E st tm w){o:Oper}{op:AOp}{V:Vis}{nm:String}{args:List SV}(ho:Lf E.P o=some op)(hc:op.HK=true)(h:(st.callee V op).holds (·=(nm,args)))(hd:∀d,o.dst=some d→d<E.nt)
  {K':TV→Heap→Prop} (hcall:GN E.P nm args (st.hp.shown V) K') (hP:∀ch w',GR E ch w'→Q (.panic ch) ⟨tm,ds⟩ w') (hK:∀r H' v w',K' r H'→∃H'':Heap,H''.Sub H'∧(V.isSome=true→H''.Free)∧(V.isSome=false→r.plain=true)∧(Rel E ((st.EF op.given).after V H'' o.dst r) (Hu tm o.dst v) w'→next (Act.put ⟨tm,ds⟩ o.dst v) w')):
  o.wp E.P ⟨tm,ds⟩ w next Q:=by
 obtain⟨lam,z,fp,R,F⟩:=R
 have main:∀(f:FuncId) (fn:Func) (vs:Array Value) (xs:List Opd),E.P.funcs[f]?=some fn→fn.name=nm→op.given=xs→
   (fn.body.isSome=true→(fn.name== "runtime.NumGoroutine")=false→(execOp (Act.eval ⟨tm,ds⟩) o).run E.P w=.ok (.enter f vs) w)→
   (∀(C':Ctx),(ctx E lam z st.hp.next).Le C'→(∀m b,b∈fp (.s m)→C'.zb b)→(∀o b,V.sees o=false→b∈fp (.o o)→C'.zb b)→(∀n s,.t n∈xs→st.sl n=.val true s→∀b,b∈fp (.s n)→C'.zt b)→
    vs.size=args.length∧∀(t:Nat) (s:SV),args[t]?=some s→∃v,vs[t]?=some v∧RSV C' w s v []∧s.cells.all AV.solid=true)→o.wp E.P ⟨tm,ds⟩ w next Q:=by
  intro f fn vs xs hf hn hgiven hrun hargs
  obtain⟨hb,hng,hcall⟩:=hcall f fn hf hn
  unfold Oper.wp
  rw[hrun hb hng]
  simp only[Oper.upon]
  obtain⟨z1,fp1,A⟩:=NB xs R F
  let C':=ctx (callee E lam z1 fp1 w V st.hp.next vs.size) lam (fun _=>False) st.hp.next
  have hsz1:∀b,z1 b→b<w.heap.size∧¬MR V fp1 b:=fun b hb=>⟨(A.rel.z b hb).1,fun⟨o,_,ho⟩=>(A.rel.fps.ok _ b ho).2.2 hb⟩
  have hle:(ctx E lam z st.hp.next).Le C':=
   ⟨rfl,fun _ _=>rfl,Nat.le_refl _,fun b hb=>.inl (hb.imp id (A.zle b)),fun b hb=>.inl ⟨R.Ty hb,fun⟨o,_,ho⟩=>R.Rt (by rw[A.fo o]at ho;exact ho) hb⟩⟩
  obtain⟨hlen,hargs⟩:=hargs C' hle
   (fun m b hb=>.inl ⟨(R.fps.ok _ b hb).1,fun⟨o,_,ho⟩=>R.fps.dis (.s m) (.o o) b (by simp) hb (by rw[A.fo o]at ho;exact ho)⟩)
   (fun o b hv hb=>.inl ⟨(R.fps.ok _ b hb).1,fun⟨o',hv',ho⟩=>R.fps.dis (.o o) (.o o') b (by intro e;cases e;rw[hv]at hv';cases hv') hb (by rw[A.fo o']at ho;exact ho)⟩)
   (fun n s hn hs b hb=>.inl (.inr (A.who n s hn hs b hb)))
  have R':=VO R A.rel A.zle A.hp A.fo (V:=V) (vs:=vs) (args:=args) hlen (fun t s ht=>by
   obtain⟨v,h1,h2,_⟩:=hargs t s ht
   exact⟨v,h1,h2⟩)
  refine(hcall (callee E lam z1 fp1 w V st.hp.next vs.size) w vs lam _ rfl rfl rfl rfl hlen R' (fun t s ht=>by
   obtain⟨v,_,_,h3⟩:=hargs t s ht
   exact h3)).mono fun e w' he=>?_
  cases e with
  |panicked c=>
   obtain⟨v,e1,e2,e3,e4,e5,e6,e7⟩:=he
   refine hP c w' ⟨v,e1,e2,fun b hb hf=>?_,e4.trans R.os,e5.trans R.tape,e6.trans R.output,Nat.le_trans R.size e7⟩
   refine(e3 b (Nat.lt_of_lt_of_le hb R.size) ?_).trans (R.frame b hb hf)
   rintro⟨o,_,ho⟩
   rcases(A.rel.fps.ok _ b ho).2.1 with h|h
   ·exact hf h
   ·exact absurd hb (Nat.not_lt.2 h)
  |outgrown=>exact he.elim
  |returned v=>
   obtain⟨r,H',lam',z',fp',k,hkept,hR⟩:=he
   obtain⟨H'',hsub,hfr,hpl,hK⟩:=hK r H' v w' k
   refine hK ?_
   rw[hgiven]
   have hR2:Ax (callee E lam z1 fp1 w V (st.EF xs).hp.next vs.size).one lam' z' fp' Am (fin r H') #[v] w':=by rw[A.hp];exact hR
   have hR3:Ax (callee E lam z1 fp1 w V (st.EF xs).hp.next vs.size).one lam' z' fp' Am (fin r H'') #[v] w':=by
    refine⟨?_,hR2.fps,hR2.z,hR2.frame,hR2.os,hR2.tape,hR2.output,hR2.size,hR2.tsz,?_,hR2.i0⟩
    ·intro κ
     have hk:=hR2.keys κ
     simp only[fin]at hk⊢
     rw[hsub.1]
     cases κ with
     |s t=>exact hk
     |h i=>exact hk
     |o o=>
      intro l hl
      rcases hsub.2 o with h0|h0
      ·rw[h0]at hl;cases hl
      ·rw[h0]at hl;exact hk l hl
    ·have:=hR2.base
     simp only[fin]at this⊢
     rw[hsub.1];exact this
   exact Xk A.rel A.refs hR3 hkept hfr hpl hd
 unfold Lf at ho
 split at ho
 case h_25=>cases ho
 case h_22=>
  rename_i c hop
  rcases DU ho with⟨f,fn,xs,hcal,hf,hbody,hnm,hl,rfl⟩|⟨t,xs,hcal,hl,rfl⟩|⟨x,t,a,e,rfl,ha,ht,rfl⟩|⟨x,t,a,rfl,ha,ht,rfl⟩|⟨x,t,n,e,rfl,ht,rfl⟩|⟨_,_,_,_,_,_,_,_,_,_,_,_,_,_,_,_,_,_,_,_,rfl⟩|⟨mx,x,y,ts,a,b,rfl,ha,hb,rfl⟩
  ·simp only[St.callee,M.Aa]at h
   rw[M.Aw]at h
   obtain⟨l,h1,h⟩:=h
   rw[M.Ad]at h
   cases h
   refine main f fn (c.args.map (Act.eval ⟨tm,ds⟩)) xs hf rfl rfl ?_ ?_
   ·intro hb hng
    have hb':fn.body≠none:=by intro e;rw[e]at hb;cases hb
    have hng':fn.name≠ "runtime.NumGoroutine" :=by simpa using hng
    simp[execOp,hop,resolve,hcal,Act.eval,Deferred.ofValue,invoke,callFunc,hf,hng',hb']
   ·intro C' hC hs hob hz
    obtain⟨e1,e2⟩:=MV R F hC hs hob ds hl hz h1
    refine⟨by simp[e1],fun t s ht=>?_⟩
    obtain⟨o',ho',r1,r2⟩:=e2 t s ht
    refine⟨Act.eval ⟨tm,ds⟩ o',?_,r1,r2⟩
    rw[Array.getElem?_map]
    have:c.args[t]?=some o':=by simpa using ho'
    rw[this]
    rfl
  ·simp only[St.callee,M.Aa]at h
   obtain⟨a,h1,h⟩:=Ba h
   split at h
   case h_2=>exact h.elim
   rename_i nm' caps
   simp only[M.Aa,M.Aj]at h
   obtain⟨hsol,h⟩:=h
   rw[M.Aw]at h
   obtain⟨l,h2,h⟩:=h
   rw[M.Ad]at h
   cases h
   obtain⟨hu,_⟩:=CW R F rfl (show AA E.P (.tmp t)=some (.t t)from rfl) h1 ds
   simp only[RSV]at hu
   generalize hfv:Act.eval ⟨tm,ds⟩ (.tmp t)=fv at hu
   generalize hnil:([]:List Nat)=f0 at hu
   cases hu with
   |clo _ _ f fn cvs hf hn hr=>
    obtain⟨nm1,b⟩:=nm'
    cases b with
    |false=>
     dsimp only at hn hfv
     refine main f fn (c.args.map (Act.eval ⟨tm,ds⟩)++cvs.toArray) xs hf hn rfl ?_ ?_
     ·intro hb hng
      have hb':fn.body≠none:=by intro e;rw[e]at hb;cases hb
      have hng':fn.name≠ "runtime.NumGoroutine" :=by simpa[hn]using hng
      have hf':E.P.funcs[f]?=some fn:=hf
      simp[execOp,hop,resolve,hcal,hfv,Deferred.ofValue,invoke,callFunc,hf',hng',hb']
     ·intro C' hC hs hob hz
      obtain⟨e1,e2⟩:=MV R F hC hs hob ds hl hz h2
      have e3:=hr.length
      refine⟨by simp[e1,e3],fun t s ht=>?_⟩
      simp only[cond_false]at ht
      by_cases htl:t<l.length
      ·rw[List.getElem?_append_left htl]at ht
       obtain⟨o',ho',r1,r2⟩:=e2 t s ht
       refine⟨Act.eval ⟨tm,ds⟩ o',?_,r1,r2⟩
       have:c.args[t]?=some o':=by simpa using ho'
       rw[Array.getElem?_append_left (by simp at e1;simp;omega),Array.getElem?_map,this]
       rfl
      ·rw[List.getElem?_append_right (by omega),List.getElem?_map]at ht
       cases hcp:caps[t -l.length]?with
       |none=>rw[hcp]at ht;cases ht
       |some cp=>
        rw[hcp]at ht
        simp only[Option.map_some,Option.some.injEq]at ht
        subst ht
        have hr2:=hr.frame hC (fun _ _=>rfl) (fun _ h=>nomatch h)
        obtain⟨m1,u,m2,f1,fa,f2,em,el,ef,_,ra,_⟩:=hr2.nth hcp
        have hfa:fa=[]:=by
         have:=ef.symm
         simp at this
         exact this.2.1
        subst hfa
        refine⟨u,?_,ra,?_⟩
        ·rw[Array.getElem?_append_right (by simp at e1;simp;omega)]
         have:(c.args.map (Act.eval ⟨tm,ds⟩)).size=l.length:=by simp at e1;simp[e1]
         rw[this,em]
         simp[←el]
        ·simpa[SV.cells]using List.all_eq_true.1 hsol cp (List.mem_of_getElem? hcp)
    |true=>
     dsimp only at hn hfv
     refine main f fn (cvs.toArray++c.args.map (Act.eval ⟨tm,ds⟩)) xs hf hn rfl ?_ ?_
     ·intro hb hng
      have hb':fn.body≠none:=by intro e;rw[e]at hb;cases hb
      have hng':fn.name≠ "runtime.NumGoroutine" :=by simpa[hn]using hng
      have hf':E.P.funcs[f]?=some fn:=hf
      simp[execOp,hop,resolve,hcal,hfv,Deferred.ofValue,invoke,callFunc,hf',hng',hb']
     ·intro C' hC hs hob hz
      obtain⟨e1,e2⟩:=MV R F hC hs hob ds hl hz h2
      have e3:=hr.length
      refine⟨by simp[e1,e3],fun t s ht=>?_⟩
      simp only[cond_true]at ht
      by_cases htl:t<caps.length
      ·rw[List.getElem?_append_left (by simpa using htl),List.getElem?_map]at ht
       cases hcp:caps[t]?with
       |none=>rw[hcp]at ht;cases ht
       |some cp=>
        rw[hcp]at ht
        simp only[Option.map_some,Option.some.injEq]at ht
        subst ht
        have hr2:=hr.frame hC (fun _ _=>rfl) (fun _ h=>nomatch h)
        obtain⟨m1,u,m2,f1,fa,f2,em,el,ef,_,ra,_⟩:=hr2.nth hcp
        have hfa:fa=[]:=by
         have:=ef.symm
         simp at this
         exact this.2.1
        subst hfa
        refine⟨u,?_,ra,?_⟩
        ·rw[Array.getElem?_append_left (by simp;omega),em]
         simp[←el]
        ·simpa[SV.cells]using List.all_eq_true.1 hsol cp (List.mem_of_getElem? hcp)
      ·rw[List.getElem?_append_right (by simp;omega)]at ht
       simp only[List.length_map]at ht
       obtain⟨o',ho',r1,r2⟩:=e2 _ s ht
       refine⟨Act.eval ⟨tm,ds⟩ o',?_,r1,r2⟩
       have:c.args[t -caps.length]?=some o':=by simpa using ho'
       rw[Array.getElem?_append_right (by simp;omega)]
       have hsz:cvs.toArray.size=caps.length:=by simp[e3]
       rw[hsz,Array.getElem?_map,this]
       rfl
  all_goals cases hc
 all_goals exfalso
 all_goals try unfold Mr at ho
 all_goals try unfold G7 at ho
 all_goals repeat' split at ho
 all_goals first
  |(simp only[Option.map_eq_some_iff]at ho;obtain⟨_,_,rfl⟩:=ho;cases hc;done)
  |(cases ho;cases hc;done)
  |(cases ho;done)
theorem Rc{P:Pg}{nt:Nat}{o:Oper}{g:GOp}(h:H6 P nt ops o=some g):Lf P o=some g.op∧guardOf ops o.guard=some g.guard∧o.dst=g.dst∧∀d,o.dst=some d→d<nt:=by
 unfold H6 at h
 split at h
 case h_2=>cases h
 rename_i op gd ho hg
 split at h
 ·rename_i d hd
  split at h
  case isFalse=>cases h
  rename_i hlt
  cases h
  exact⟨ho,hg,hd,fun d' hd'=>by rw[hd]at hd';cases hd';exact hlt⟩
 ·rename_i hd
  cases h
  exact⟨ho,hg,hd,fun d' hd'=>by rw[hd]at hd';cases hd'⟩
theorem UO{P:Pg}{o:Oper}{a:Opd}(ho:Lf P o=some (.panic a)):∃x,o.op=.panic x∧AA P x=some a:=by
 unfold Lf at ho
 split at ho
 case h_24=>
  rename_i x hop
  simp only[Option.map_eq_some_iff]at ho
  obtain⟨a',ha,he⟩:=ho
  cases he
  exact⟨x,hop,ha⟩
 case h_22=>
  rcases DU ho with⟨f,fn,l,hc,_,_,_,_,h⟩|⟨t,l,hc,_,h⟩|⟨x,t,a,e,_,ha,ht,h⟩|⟨x,t,a,_,ha,ht,h⟩|⟨x,t,n,e,_,ht,h⟩|⟨_,_,_,_,_,_,_,_,_,_,_,_,_,_,_,_,_,_,_,_,h⟩|⟨mx,x,y,ts,a,b,_,ha,hb,h⟩<;>cases h
 case h_25=>cases ho
 all_goals try unfold Mr at ho
 all_goals try unfold G7 at ho
 all_goals repeat' split at ho
 all_goals first
  |(simp only[Option.map_eq_some_iff]at ho;obtain⟨_,_,h⟩:=ho;cases h;done)
  |(cases ho;done)
theorem RB{lam:Nat→Nat}{z:Nat→Prop}{fp:Ky→List Nat}{hd:Hands}(R:Ax E lam z fp hd st tm w){v:Value}(hv:E.P.kp v):GR E [{v,recovered:=false}] w:=
 ⟨v,rfl,hv,R.frame,R.os,R.tape,R.output,R.size⟩
theorem Ug(R:Rel E st tm w){i:Nat}{o:Oper}{g:GOp}(hi:ops[i]?=some o)(hg:H6 E.P E.nt ops o=some g)(h:Ds E.P g K st)
  (hP:∀ch w',GR E ch w'→Q (.panic ch) ⟨tm,ds⟩ w') (hK:∀st' tm' w',K st'→Rel E st' tm' w'→next ⟨tm',ds⟩ w'):wpOp E.P ops Q i next ⟨tm,ds⟩ w:=by
 obtain⟨ho,hgd,hdst,hd⟩:=Rc hg
 unfold Ds at h
 rw[M.Aw]at h
 obtain⟨b,hb,h⟩:=h
 have hw:=Re R hgd hb
 unfold wpOp
 simp only[hi]
 rw[hw]
 have hput:∀v,Act.put ⟨tm,ds⟩ o.dst v=⟨Hu tm o.dst v,ds⟩:=put_eq tm ds o.dst
 rw[←hdst]at h
 cases b with
 |false=>
  rw[if_neg (by simp)]
  rw[hput]
  obtain⟨s,h⟩:=h.2 rfl
  exact hK _ _ _ h (R.skipped hd _)
 |true=>
  rw[if_pos rfl]
  refine .inl ?_
  have h:=h.1 rfl
  cases hcl:g.op.HK with
  |true=>
   rw[hcl,if_pos rfl]at h
   obtain⟨V,h⟩:=h
   rw[M.Aw]at h
   obtain⟨⟨nm,args⟩,h1,h2⟩:=h
   exact Xl R ho hcl h1 hd h2 hP (fun r H' v w' ⟨H'',k1,k2,k3,k4⟩=>⟨H'',k1,k2,k3,fun hr=>by rw[hput];exact hK _ _ _ k4 hr⟩)
  |false=>
   rw[hcl,if_neg (by simp)]at h
   obtain⟨lam,z,fp,R,F⟩:=R
   cases hW:g.op.isW with
   |true=>
    rw[hW,if_pos rfl]at h
    rcases h with h|h
    case inr=>
     unfold Vm at h
     split at h
     case h_2=>exact h.elim
     rename_i x hx
     rw[hx]at ho
     obtain⟨x',hop,hx'⟩:=UO ho
     rw[M.Aw]at h
     obtain⟨a,h1,t,u,rfl,hk⟩:=h
     have e:=Bz (ds:=ds) R F rfl hx' (by
      obtain⟨c,h3,h4⟩:=Ba h1
      subst h4
      exact h3)
     unfold Oper.wp
     have hrun:(execOp (Act.eval ⟨tm,ds⟩) o).run E.P w=.halt (.panic (.iface t u)) w:=by simp[execOp,hop,e,Instr.panic]
     rw[hrun]
     exact hP _ _ (RB R hk)
    rw[M.Aw]at h
    obtain⟨st',h1,h2⟩:=h
    obtain⟨r,w',hrun,hr⟩:=Yu (ds:=ds) R F ho hW hd h1
    unfold Oper.wp
    rw[hrun]
    rcases hr with⟨v,rfl,hr⟩|⟨rfl,hr⟩
    ·simp only[Oper.upon]
     rw[hput]
     exact hK _ _ _ h2 hr
    ·simp only[Oper.upon]
     rw[hput]
     exact hK _ _ _ h2 hr
   |false=>
    rw[hW,if_neg (by simp)]at h
    rcases h with h|⟨n,d,l,e1,e2,e3,e4,h⟩
    case inr=>
     rw[e1]at ho
     unfold Oper.wp
     rw[NV (ds:=ds) (NU ho)]
     simp only[Oper.upon]
     rw[hput,e2]
     exact hK _ _ _ h (Rp ⟨lam,z,fp,R,F⟩ e4 (hd d e2) e3)
    rw[M.Aw]at h
    obtain⟨s,h1,h2⟩:=h
    obtain⟨v,w',hrun,hr,_,_⟩:=Wd (ds:=ds) R F ho hW hcl rfl h1
    unfold Oper.wp
    rw[hrun]
    simp only[Oper.upon]
    rw[hput]
    exact hK _ _ _ h2 (Rel.read R F hd hr)
theorem Ry:∀(l:List (Nat×GOp)) {st:St} {tm:Array Value} {w:World},(∀p∈l,∃o,ops[p.1]?=some o∧H6 E.P E.nt ops o=some p.2)→Rel E st tm w→Fy E.P (l.map (·.2)) K st→
  (∀ch tm' w',GR E ch w'→Q (.panic ch) ⟨tm',ds⟩ w')→(∀st' tm' w',K st'→Rel E st' tm' w'→Q .normal ⟨tm',ds⟩ w')→wpOps E.P ops Q (l.map (·.1)) ⟨tm,ds⟩ w
 |[],st,tm,w,_,R,h,_,hK=>hK st tm w h R
 |(i,g)::l,st,tm,w,hl,R,h,hP,hK=>by
  obtain⟨o,hi,hg⟩:=hl (i,g) (by simp)
  simp only[List.map_cons]at h⊢
  rw[wpOps_cons]
  have h':Ds E.P g (Wk (Fy E.P (l.map (·.2)) K)) st:=h
  refine Ug R hi hg h' (fun ch w'=>hP ch tm w') ?_
  rintro st' tm' w' ⟨st2,hle,h2⟩ R2
  exact Ry l (fun p hp=>hl p (by simp[hp])) (hle _ _ _ R2) h2 hP hK
theorem Pe{P:Pg}{nt:Nat}:∀{l:List Oper} {gs:List GOp},L7 P nt ops l=some gs→gs.length=l.length∧∀(i:Nat) (o:Oper),l[i]?=some o→∃g,gs[i]?=some g∧H6 P nt ops o=some g
 |[],gs,h=>by
  simp only[L7,Option.some.injEq]at h
  subst h
  exact⟨rfl,fun i o hi=>by simp at hi⟩
 |o::l,gs,h=>by
  simp only[L7]at h
  split at h
  case h_2=>cases h
  rename_i g gs' hg hl
  cases h
  obtain⟨e,r⟩:=Pe hl
  refine⟨by simp[e],fun i o' hi=>?_⟩
  cases i with
  |zero=>simp at hi;subst hi;exact⟨g,rfl,hg⟩
  |succ i=>simpa using r i o' (by simpa using hi)
end
end Go.VS
namespace Go.VS
section
variable{P:Pg}{ops:Array Oper}{Q:Exit→Act→World→Prop}{md:Region.Mode}
def stepT(P:Pg)(ops:Array Oper)(Q:Exit→Act→World→Prop)(i:Nat)(K:Act→World→Prop)(a:Act)(w:World):Prop:=
 match ops[i]?with
 |none=>K a w
 |some o=>if o.op.still then(if Region.wanted o (yielded ops a.tmps)then∃v,(execOp a.eval o).run P w=.ok (.value v) w∧K (a.put o.dst v) w else K (a.put o.dst undef) w)else wpOp P ops Q i K a w
theorem Tl{i:Nat}{K:Act→World→Prop}{a:Act}{w:World}(h:stepT P ops Q i K a w):wpOp P ops Q i K a w:=by
 unfold stepT at h
 cases ho:ops[i]?with
 |none=>simp only[ho]at h;simp only[wpOp,ho];exact h
 |some o=>
  simp only[ho]at h
  split at h
  ·simp only[wpOp,ho]
   split
   ·rename_i hw
    rw[if_pos hw]at h
    obtain⟨v,h1,h2⟩:=h
    exact .inl (by simp only[Oper.wp,h1,Oper.upon];exact h2)
   ·rename_i hw
    rw[if_neg hw]at h
    exact h
  ·exact h
theorem Tk{i:Nat}{K K':Act→World→Prop}{a:Act}{w:World}(hk:∀a w,K a w→K' a w)(h:stepT P ops Q i K a w):stepT P ops Q i K' a w:=by
 unfold stepT at h⊢
 split
 ·rename_i ho;simp only[ho]at h;exact hk _ _ h
 ·rename_i o ho
  simp only[ho]at h
  split
  ·rename_i hs
   rw[if_pos hs]at h
   split
   ·rename_i hw
    rw[if_pos hw]at h
    obtain⟨v,h1,h2⟩:=h
    exact⟨v,h1,hk _ _ h2⟩
   ·rename_i hw
    rw[if_neg hw]at h
    exact hk _ _ h
  ·rename_i hs
   rw[if_neg hs]at h
   exact wpOp_mono hk h
def QG(P:Pg)(md:Region.Mode)(ops:Array Oper)(Q:Exit→Act→World→Prop):Nat→Array Bool→Act→World→Prop
 |0,listed,a,w=>Region.ready md ops listed=[]∧Q .normal a w
 |fuel+1,listed,a,w=>(Region.ready md ops listed=[]→Q .normal a w)∧∀i∈Region.ready md ops listed,stepT P ops Q i (QG P md ops Q fuel (listed.setIfInBounds i true)) a w
theorem Nf:∀(fuel:Nat) (listed:Array Bool) (a:Act) (w:World),QG P md ops Q fuel listed a w→wpAny P md ops Q fuel listed a w
 |0,_,_,_,h=>h
 |fuel+1,listed,a,w,h=>⟨h.1,fun i hi=>wpOp_mono (fun a w h=>Nf fuel _ a w h) (Tl (h.2 i hi))⟩
def YieldsAt(P:Pg)(ops:Array Oper)(o:Oper)(v:Value)(a:Act)(w:World):Prop:=
 (Region.wanted o (yielded ops a.tmps)=true∧(execOp a.eval o).run P w=.ok (.value v) w)∨(Region.wanted o (yielded ops a.tmps)=false∧v=undef)
theorem YieldsAt.step{i:Nat}{o:Oper}{v:Value}{a:Act}{w:World}{K:Act→World→Prop}(hi:ops[i]?=some o)(hs:o.op.still=true)(hy:YieldsAt P ops o v a w)(h:K (a.put o.dst v) w):stepT P ops Q i K a w:=by
 unfold stepT
 simp only[hi]
 rw[if_pos hs]
 rcases hy with⟨h1,h2⟩|⟨h1,rfl⟩
 ·rw[if_pos h1];exact⟨v,h2,h⟩
 ·rw[if_neg (by simp[h1])];exact h
theorem U8{j:Nat}{oi oj:Oper}{v:Value}(hj:ops[j]?=some oj)(hap:oi.apart ops oj=true)(hsi:∀cs b,oi.op≠.select cs b)(hsj:∀cs b,oj.op≠.select cs b)
  (hQ:∀c a w,Q (.panic c) (a.put oi.dst v) w→Q (.panic c) a w) {K:Act→World→Prop} {a:Act} {w:World} (hy:Yields P ops oi v a) (h:stepT P ops Q j K (a.put oi.dst v) w):
  stepT P ops Q j (fun a' w'=>Yields P ops oi v a'∧K (a'.put oi.dst v) w') a w:=by
 obtain⟨h1,h2,h3⟩:=Oper.apart_spec hap
 have keep:∀u,Yields P ops oi v (a.put oj.dst u):=fun u=>hy.of_same (execOp_put oi hsi a oj.dst u h3) (wanted_put oi a oj.dst u h3)
 unfold stepT at h⊢
 simp only[hj]at h⊢
 split
 ·rename_i hs
  rw[if_pos hs,wanted_put oj a oi.dst v h1,execOp_put oj hsj a oi.dst v h1]at h
  split
  ·rename_i hw
   rw[if_pos hw]at h
   obtain⟨u,q1,q2⟩:=h
   exact⟨u,q1,keep u,by rw[←Act.put_comm a v u h2];exact q2⟩
  ·rename_i hw
   rw[if_neg hw]at h
   exact⟨keep _,by rw[←Act.put_comm a v undef h2];exact h⟩
 ·rename_i hs
  rw[if_neg hs]at h
  exact wpOp_put hj hap hsi hsj hQ hy h
theorem SL{listed:Array Bool}{i k:Nat}(h0:listed.getD i true=false)(h1:listed.getD k false=true):k≠i:=by
 rintro rfl
 rcases Nat.lt_or_ge k listed.size with h|h
 ·simp[h]at h0 h1;rw[h0]at h1;cases h1
 ·simp[Array.getElem?_eq_none h]at h1
theorem Sm{i:Nat}{oi:Oper}{v:Value}(hi:ops[i]?=some oi)(hq:oi.op.still=true)(hsel:∀(j:Nat) (o:Oper) cs b,ops[j]?=some o→o.op≠.select cs b)(hQ:∀c a w,Q (.panic c) (a.put oi.dst v) w→Q (.panic c) a w):
  ∀(fuel:Nat) (listed:Array Bool) (a:Act) (w:World),
   (∀j oj,ops[j]?=some oj→j≠i→listed.getD j true=false→(∀e∈oj.after,Region.binds md e=true→e.on≠i)→oi.apart ops oj=true)→
   i∈Region.ready md ops listed→Yields P ops oi v a→QG P md ops Q fuel (listed.setIfInBounds i true) (a.put oi.dst v) w→QG P md ops Q (fuel+1) listed a w:=by
 have at':∀a w,Yields P ops oi v a→YieldsAt P ops oi v a w:=fun a w hy=>hy.imp (fun h=>⟨h.1,h.2 w⟩) id
 intro fuel
 induction fuel with
 |zero=>
  intro listed a w _ hr hy H
  refine⟨fun h=>(by rw[h]at hr;cases hr),fun j hj=>?_⟩
  by_cases hji:j=i
  ·subst hji;exact(at' a w hy).step hi hq H
  ·have:=ready_mono hj hji
   rw[H.1]at this
   cases this
 |succ fuel ih=>
  intro listed a w hfree hr hy H
  refine⟨fun h=>(by rw[h]at hr;cases hr),fun j hj=>?_⟩
  by_cases hji:j=i
  ·subst hji;exact(at' a w hy).step hi hq H
  ·have h1:=H.2 j (ready_mono hj hji)
   obtain⟨hjun,oj,hoj,hall⟩:=mem_ready.1 hj
   have hnot:∀e∈oj.after,Region.binds md e=true→e.on≠i:=fun e he hb=>SL (mem_ready.1 hr).1 (hall e he hb)
   have h2:=U8 hoj (hfree j oj hoj hji hjun hnot) (fun cs b=>hsel i oi cs b hi) (fun cs b=>hsel j oj cs b hoj) hQ hy h1
   have hfree':∀k ok,ops[k]?=some ok→k≠i→(listed.setIfInBounds j true).getD k true=false→(∀e∈ok.after,Region.binds md e=true→e.on≠i)→oi.apart ops ok=true:=fun k ok hk hki hun hno=>by
    refine hfree k ok hk hki ?_ hno
    by_cases hjk:j=k
    ·subst hjk;exact hjun
    ·rw[getD_set_ne true hjk]at hun;exact hun
   refine Tk (fun a' w' h3=>ih (listed.setIfInBounds j true) a' w' hfree' (ready_mono hr (Ne.symm hji)) h3.1 ?_) h2
   rw[Array.setIfInBounds_comm _ _ hji]
   exact h3.2
theorem Sn{i:Nat}{oi:Oper}{v:Value}(hi:ops[i]?=some oi)(hq:oi.op.still=true)(hsel:∀(j:Nat) (o:Oper) cs b,ops[j]?=some o→o.op≠.select cs b){B:Nat→Bool}
  (hB:∀j,B j=true→∃oj e,ops[j]?=some oj∧e∈oj.after∧Region.binds md e=true∧(e.on=i∨B e.on=true)):
  ∀(fuel:Nat) (listed:Array Bool) (a:Act) (w:World),
   (∀j oj,ops[j]?=some oj→j≠i→listed.getD j true=false→B j=true∨(oi.apart ops oj=true∧oj.op.still=true))→(∀j,B j=true→listed.getD j true=false)→
   i∈Region.ready md ops listed→YieldsAt P ops oi v a w→QG P md ops Q fuel (listed.setIfInBounds i true) (a.put oi.dst v) w→QG P md ops Q (fuel+1) listed a w:=by
 intro fuel
 induction fuel with
 |zero=>
  intro listed a w _ _ hr hy H
  refine⟨fun h=>(by rw[h]at hr;cases hr),fun j hj=>?_⟩
  by_cases hji:j=i
  ·subst hji;exact hy.step hi hq H
  ·have:=ready_mono hj hji
   rw[H.1]at this
   cases this
 |succ fuel ih=>
  intro listed a w hfree hBl hr hy H
  refine⟨fun h=>(by rw[h]at hr;cases hr),fun j hj=>?_⟩
  by_cases hji:j=i
  ·subst hji;exact hy.step hi hq H
  ·have h1:=H.2 j (ready_mono hj hji)
   obtain⟨hjun,oj,hoj,hall⟩:=mem_ready.1 hj
   have hnB:¬B j=true:=by
    intro hb
    obtain⟨oj',e,ho',he,hbd,hon⟩:=hB j hb
    rw[hoj]at ho'
    cases ho'
    have h1:=hall e he hbd
    rcases hon with hon|hon
    ·exact SL (mem_ready.1 hr).1 h1 hon
    ·exact SL (hBl _ hon) h1 rfl
   obtain⟨hap,hsj⟩:=(hfree j oj hoj hji hjun).resolve_left hnB
   obtain⟨a1,a2,a3⟩:=Oper.apart_spec hap
   have hso:=fun cs b=>hsel i oi cs b hi
   have hsoj:=fun cs b=>hsel j oj cs b hoj
   have keep:∀u,YieldsAt P ops oi v (a.put oj.dst u) w:=fun u=>by
    unfold YieldsAt at hy⊢
    rw[execOp_put oi hso a oj.dst u a3,wanted_put oi a oj.dst u a3]
    exact hy
   have hfree':∀k ok,ops[k]?=some ok→k≠i→(listed.setIfInBounds j true).getD k true=false→B k=true∨(oi.apart ops ok=true∧ok.op.still=true):=fun k ok hk hki hun=>by
    refine hfree k ok hk hki ?_
    by_cases hjk:j=k
    ·subst hjk;exact hjun
    ·rw[getD_set_ne true hjk]at hun;exact hun
   have hBl':∀k,B k=true→(listed.setIfInBounds j true).getD k true=false:=fun k hk=>by
    have hjk:j≠k:=fun e=>hnB (e▸hk)
    rw[getD_set_ne true hjk]
    exact hBl k hk
   have hr':=ready_mono hr (Ne.symm hji)
   unfold stepT at h1⊢
   simp only[hoj]at h1⊢
   rw[if_pos hsj]at h1⊢
   rw[wanted_put oj a oi.dst v a1,execOp_put oj hsoj a oi.dst v a1]at h1
   split
   ·rename_i hw
    rw[if_pos hw]at h1
    obtain⟨u,q1,q2⟩:=h1
    refine⟨u,q1,ih _ _ w hfree' hBl' hr' (keep u) ?_⟩
    rw[Array.setIfInBounds_comm _ _ hji,←Act.put_comm a v u a2]
    exact q2
   ·rename_i hw
    rw[if_neg hw]at h1
    refine ih _ _ w hfree' hBl' hr' (keep _) ?_
    rw[Array.setIfInBounds_comm _ _ hji,←Act.put_comm a v undef a2]
    exact h1
end
end Go.VS
namespace Go.VS
def Cc(P:Pg):GO→(St→Prop)→St→Prop
 |.done,K,st=>K st
 |.first g t,K,st=>Ds P g (Wk (Cc P t K)) st
 |.alt g t m,K,st=>Ds P g (Wk (Cc P t K)) st∧Cc P m K st
 |.stop,_,_=>True
section
variable{md:Region.Mode}{ops:Array Oper}{E:Env}{st:St}{tm:Array Value}{w:World}{ds:List Deferred}{K:St→Prop}{Q:Exit→Act→World→Prop}
theorem Kx(i:Nat):∀n j,j∈blocked md ops i n→j∈blocked md ops i (n+1)
 |0,j,h=>by cases h
 |n+1,j,h=>by
  have ih:=Kx i n
  simp only[blocked,I6,List.mem_filter]at h⊢
  refine⟨h.1,?_⟩
  have h2:=h.2
  split at h2
  ·rename_i oj hoj
   rw[Array.any_eq_true']at h2⊢
   obtain⟨e,he,hb⟩:=h2
   refine⟨e,he,?_⟩
   simp only[Bool.and_eq_true,Bool.or_eq_true]at hb⊢
   refine⟨hb.1,hb.2.imp id fun h=>?_⟩
   rw[List.contains_iff_mem]at h⊢
   have:=ih _ h
   simpa only[blocked,I6,List.mem_filter]using this
  ·cases h2
theorem Ss(i n:Nat)(j:Nat)(h:j∈blocked md ops i (n+1)):∃oj e,ops[j]?=some oj∧e∈oj.after∧Region.binds md e=true∧(e.on=i∨e.on∈blocked md ops i (n+1)):=by
 have h0:=h
 simp only[blocked,I6,List.mem_filter]at h0
 have h2:=h0.2
 split at h2
 ·rename_i oj hoj
  rw[Array.any_eq_true']at h2
  obtain⟨e,he,hb⟩:=h2
  simp only[Bool.and_eq_true,Bool.or_eq_true,beq_iff_eq]at hb
  refine⟨oj,e,hoj,he,hb.1,hb.2.imp id fun h=>?_⟩
  rw[List.contains_iff_mem]at h
  exact Kx i n _ h
 ·cases h2
theorem R7{P:Pg}{o:Oper}{op:AOp}(ho:Lf P o=some op)(hs:o.op.still=true):op.HK=false∧op.isW=false:=by
 unfold Lf at ho
 split at ho
 case h_22=>
  rename_i c hop
  rw[hop]at hs
  rcases DU ho with⟨f,fn,l,hc,_,_,_,_,rfl⟩|⟨t,l,hc,_,rfl⟩|⟨x,t,a,e,rfl,ha,ht,rfl⟩|⟨x,t,a,rfl,ha,ht,rfl⟩|⟨x,t,n,e,rfl,ht,rfl⟩|⟨_,_,_,_,_,_,_,_,_,_,_,rfl,_,_,_,_,_,_,_,_,rfl⟩|⟨mx,x,y,ts,a,b,rfl,ha,hb,rfl⟩
  ·simp[Op.still,Op.quiet,hc]at hs
  ·simp[Op.still,Op.quiet,hc]at hs
  ·exact⟨rfl,rfl⟩
  ·exact⟨rfl,rfl⟩
  ·exact⟨rfl,rfl⟩
  ·simp[Op.still,Op.quiet]at hs
  ·exact⟨rfl,rfl⟩
 case h_25=>cases ho
 all_goals (rename_i hop)
 all_goals try (rw[hop]at hs;simp[Op.still,Op.quiet]at hs;done)
 all_goals try unfold Mr at ho
 all_goals try unfold G7 at ho
 all_goals repeat' split at ho
 all_goals first
  |(simp only[Option.map_eq_some_iff]at ho;obtain⟨_,_,rfl⟩:=ho;exact⟨rfl,rfl⟩)
  |(cases ho;exact⟨rfl,rfl⟩)
  |(cases ho;done)
theorem R6(R:Rel E st tm w){o:Oper}{g:GOp}(hg:H6 E.P E.nt ops o=some g)(hs:o.op.still=true)(h:Ds E.P g K st):
  ∃v,YieldsAt E.P ops o v ⟨tm,ds⟩ w∧(Hb E.P o.op=true→Yields E.P ops o v ⟨tm,ds⟩)∧∃st',K st'∧Rel E st' (Hu tm o.dst v) w:=by
 obtain⟨ho,hgd,hdst,hd⟩:=Rc hg
 obtain⟨hcl,hW⟩:=R7 ho hs
 unfold Ds at h
 rw[M.Aw]at h
 obtain⟨b,hb,h⟩:=h
 have hw:=Re R hgd hb
 rw[←hdst,hcl,if_neg (by simp),hW,if_neg (by simp)]at h
 cases b with
 |false=>
  obtain⟨s,h2⟩:=h.2 rfl
  exact⟨undef,.inr ⟨hw,rfl⟩,fun _=>.inr ⟨hw,rfl⟩,_,h2,R.skipped hd _⟩
 |true=>
  have h:=h.1 rfl
  rcases h with h|⟨n,d,l,e1,e2,e3,e4,h⟩
  case inr=>
   rw[e1]at ho
   refine⟨_,.inl ⟨hw,NV (ds:=ds) (NU ho) w⟩,fun _=>.inl ⟨hw,fun w'=>NV (ds:=ds) (NU ho) w'⟩,_,h,?_⟩
   rw[e2]
   exact Rp R e4 (hd d e2) e3
  rw[M.Aw]at h
  obtain⟨s,h1,h2⟩:=h
  obtain⟨lam,z,fp,R,F⟩:=R
  obtain⟨v,w',hrun,hr,hq,hsame⟩:=Wd (ds:=ds) R F ho hW hcl rfl h1
  obtain rfl:=hsame hs
  exact⟨v,.inl ⟨hw,hrun⟩,fun hqq=>.inl ⟨hw,hq hqq⟩,_,h2,Rel.read R F hd hr⟩
theorem WH(R:Rel E st tm w){i:Nat}{o:Oper}{g:GOp}{next:Act→World→Prop}(hi:ops[i]?=some o)(hg:H6 E.P E.nt ops o=some g)(h:Ds E.P g K st)
  (hP:∀ch w',GR E ch w'→Q (.panic ch) ⟨tm,ds⟩ w') (hK:∀st' tm' w',K st'→Rel E st' tm' w'→next ⟨tm',ds⟩ w'):stepT E.P ops Q i next ⟨tm,ds⟩ w:=by
 cases hs:o.op.still with
 |true=>
  obtain⟨v,hy,_,st',h1,h2⟩:=R6 (ds:=ds) R hg hs h
  exact hy.step hi hs (by rw[put_eq];exact hK _ _ _ h1 h2)
 |false=>
  unfold stepT
  simp only[hi,hs,Bool.false_eq_true,if_false]
  exact Ug R hi hg h hP hK
theorem XV(hsel:∀(j:Nat) (o:Oper) cs b,ops[j]?=some o→o.op≠.select cs b)(hQ:∀c tm tm' w,Q (.panic c) ⟨tm,ds⟩ w→Q (.panic c) ⟨tm',ds⟩ w)(hQ2:∀c tm ds' w,Q (.panic c) ⟨tm,ds'⟩ w→ds'=ds)(hP:∀ch tm' w',GR E ch w'→Q (.panic ch) ⟨tm',ds⟩ w')(hK:∀st' tm' w',K st'→Rel E st' tm' w'→Q .normal ⟨tm',ds⟩ w'):
  ∀(fuel:Nat) (listed:Array Bool) (t:GO) (st:St) (tm:Array Value) (w:World),EV md ops E.P E.nt fuel listed=some t→Rel E st tm w→Cc E.P t K st→QG E.P md ops Q fuel listed ⟨tm,ds⟩ w:=by
 have hput2:∀(c:List PanicEntry) (a:Act) (d:Option Nat) (v:Value) (w:World),Q (.panic c) (a.put d v) w→Q (.panic c) a w:=by
  rintro c ⟨tm1,ds1⟩ d v w h
  rw[put_eq]at h
  obtain rfl:=hQ2 _ _ _ _ h
  exact hQ _ _ _ _ h
 intro fuel
 induction fuel with
 |zero=>
  intro listed t st tm w ht R h
  simp only[EV]at ht
  split at ht
  case isFalse=>cases ht
  rename_i hr
  cases ht
  exact⟨hr,hK st tm w h R⟩
 |succ fuel ih=>
  intro listed t st tm w ht R h
  simp only[EV]at ht
  split at ht
  ·rename_i hr
   cases ht
   exact⟨fun _=>hK st tm w h R,by rw[hr];simp⟩
  ·rename_i hr
   have mk_ok:∀(i:Nat) (g:GOp) (t':GO),(match(ops[i]?).bind (H6 E.P E.nt ops),EV md ops E.P E.nt fuel (listed.setIfInBounds i true)with|some g,some t=>some (g,t)|_,_=>none)=some (g,t')→
     ∃o,ops[i]?=some o∧H6 E.P E.nt ops o=some g∧EV md ops E.P E.nt fuel (listed.setIfInBounds i true)=some t':=by
    intro i g t' hm
    split at hm
    case h_2=>cases hm
    rename_i g0 t0 hg0 ht0
    cases hm
    rw[Option.bind_eq_some_iff]at hg0
    obtain⟨o,ho,hgo⟩:=hg0
    exact⟨o,ho,hgo,ht0⟩
   split at ht
   ·rename_i i hf
    rw[Option.map_eq_some_iff]at ht
    obtain⟨⟨g,t'⟩,hm,rfl⟩:=ht
    obtain⟨o,hi,hgo,ht'⟩:=mk_ok i g t' hm
    have hmem:=List.mem_of_find?_eq_some hf
    have hok:=List.find?_some hf
    have hstill:o.op.still=true:=by
     unfold P3 at hok
     simp only[hi,Bool.or_eq_true,Bool.and_eq_true]at hok
     rcases hok with h|h
     ·have hq:o.op.quiet=true:=by
       have:=h.1
       unfold Hb at this
       rw[Bool.and_eq_true]at this
       exact this.1
      cases hop:o.op<;>rw[hop]at hq<;>first|rfl|exact hq
     ·exact h.1
    have h':Ds E.P g (Wk (Cc E.P t' K)) st:=h
    obtain⟨v,hy,hyq,st',⟨st2,hle,h1⟩,h2⟩:=R6 (ds:=ds) R hgo hstill h'
    have hrest:=ih _ t' st2 _ w ht' (hle _ _ _ h2) h1
    have hput:(⟨Hu tm o.dst v,ds⟩:Act)=Act.put ⟨tm,ds⟩ o.dst v:=(put_eq tm ds o.dst v).symm
    rw[hput]at hrest
    unfold P3 at hok
    simp only[hi,Bool.or_eq_true,Bool.and_eq_true]at hok
    rcases hok with hok|hok
    ·exact Sm hi hstill hsel (fun c a w h=>hput2 c a _ _ w h) fuel listed _ w (Region.free_spec hi hok.2) hmem (hyq hok.1) hrest
    ·have hn:=hok.2
     unfold X4 at hn
     simp only[hi,Bool.and_eq_true,List.all_eq_true,List.mem_range]at hn
     refine Sn hi hstill hsel (B:=fun j=>(blocked md ops i 6).contains j) ?_ fuel listed _ w ?_ ?_ hmem hy hrest
     ·intro j hj
      obtain⟨oj,e,q1,q2,q3,q4⟩:=Ss i 5 j (List.contains_iff_mem.1 hj)
      exact⟨oj,e,q1,q2,q3,q4.imp id fun h=>List.contains_iff_mem.2 h⟩
     ·intro j oj hj hne hun
      have:=hn.2 j (Array.getElem?_eq_some_iff.1 hj).1
      simp only[hj,Bool.or_eq_true,beq_iff_eq,hne,false_or,hun,Bool.false_eq_true,Bool.and_eq_true]at this
      exact this
     ·intro j hj
      have:=hn.1 j (List.contains_iff_mem.1 hj)
      simpa using this
   ·refine⟨fun h0=>absurd h0 hr,?_⟩
    have key:∀(rs:List Nat) (t:GO),PV (fun i=>match(ops[i]?).bind (H6 E.P E.nt ops),EV md ops E.P E.nt fuel (listed.setIfInBounds i true)with|some g,some t=>some (g,t)|_,_=>none) rs=some t→
      Cc E.P t K st→∀i∈rs,stepT E.P ops Q i (QG E.P md ops Q fuel (listed.setIfInBounds i true)) ⟨tm,ds⟩ w:=by
     intro rs
     induction rs with
     |nil=>intro t _ _ i hi;cases hi
     |cons j rs ihr=>
      intro t hal hw i hi
      simp only[PV]at hal
      split at hal
      case h_2=>cases hal
      rename_i g t' m hm hm2
      cases hal
      rcases List.mem_cons.1 hi with rfl|hi
      ·obtain⟨o,ho,hgo,ht'⟩:=mk_ok i g t' hm
       exact WH R ho hgo hw.1 (fun ch w'=>hP ch _ w') (fun st' tm' w' ⟨st2,hle,h1⟩ h2=>ih _ t' st2 tm' w' ht' (hle _ _ _ h2) h1)
      ·exact ihr m hm2 hw.2 i hi
    exact key _ t ht h
end
end Go.VS
namespace Go.VS
inductive AEx
 |normal
 |exit (id:Nat)
 |ret
 deriving DecidableEq
def lift(E:Env)(Q:AEx→St→Prop):Exit→Act→World→Prop
 |.normal,a,w=>a.defers=[]∧∃st,Rel E st a.tmps w∧Q .normal st
 |.exit id,a,w=>a.defers=[]∧∃st,Rel E st a.tmps w∧Q (.exit id) st
 |.ret,a,w=>a.defers=[]∧∃st,Rel E st a.tmps w∧Q .ret st
 |.panic ch,a,w=>a.defers=[]∧GR E ch w
 |_,_,_=>False
def Awp(P:Pg)(A:Hk)(Q:AEx→St→Prop)(st:St):Prop:=
 ∀(c:Code) (E:Env) (tm:Array Value) (w:World),codeOf P E.nt c=some A→E.P=P→Rel E st tm w→c.wp P (lift E Q) ⟨tm,[]⟩ w
theorem Bu{P:Pg}{nt:Nat}{ops:Array Oper}{draw:Bool}{A:Hk}(h:N9 P nt ops draw=some A):
  (∃gs,draw=false∧A=.region gs false∧L7 P nt ops ops.toList=some gs)∨
  (∃ts,A=.draw ts∧draw=true∧Region.noSelect ops=true∧
   ((∃t,ts=[t]∧(P.follows .mixedOrders||!Region.departs ops)=true∧EV .any ops P nt ops.size (Array.replicate ops.size false)=some t)∨
    (∃t u,ts=[t,u]∧(P.follows .mixedOrders||!Region.departs ops)=false∧EV .text ops P nt ops.size (Array.replicate ops.size false)=some t∧EV .gc ops P nt ops.size (Array.replicate ops.size false)=some u))):=by
 unfold N9 at h
 split at h
 ·rename_i hd
  split at h
  case isFalse=>cases h
  rename_i hs
  split at h
  ·rename_i hm
   simp only[Option.map_eq_some_iff]at h
   obtain⟨t,ht,rfl⟩:=h
   exact .inr ⟨[t],rfl,hd,hs,.inl ⟨t,rfl,hm,ht⟩⟩
  ·rename_i hm
   split at h
   case h_2=>cases h
   rename_i t u ht hu
   cases h
   exact .inr ⟨[t,u],rfl,hd,hs,.inr ⟨t,u,rfl,by simpa using hm,ht,hu⟩⟩
 ·rename_i hd
  simp only[Option.map_eq_some_iff]at h
  obtain⟨gs,hgs,rfl⟩:=h
  exact .inl ⟨gs,by simpa using hd,rfl,hgs⟩
section
variable{P:Pg}{Q Q':AEx→St→Prop}{st:St}{A B:Hk}
theorem UJ{E:Env}(h:∀e st,Q e st→Q' e st)(e:Exit)(a:Act)(w:World)(hq:lift E Q e a w):lift E Q' e a w:=by
 cases e<;>first
  |exact hq.elim
  |exact hq
  |(obtain⟨h1,st,h2,h3⟩:=hq;exact⟨h1,st,h2,h _ _ h3⟩)
theorem Awp.mono(h:Awp P A Q st)(hq:∀e st,Q e st→Q' e st):Awp P A Q' st:=
 fun c E tm w hc hP R=>wp_mono (h c E tm w hc hP R) (fun e a w=>UJ hq e a w)
theorem Awp.weaken{st':St}(h:Awp P A Q st')(hl:St.Le st st'):Awp P A Q st:=
 fun c E tm w hc hP R=>h c E tm w hc hP (hl E tm w R)
theorem Vy(h:Q .normal st):Awp P .skip Q st:=by
 intro c E tm w hc hP R
 cases c<;>simp only[codeOf,Option.some.injEq,reduceCtorEq]at hc
 case skip=>exact wp_skip ⟨rfl,st,R,h⟩
 all_goals (first|(rcases Bu hc with⟨_,_,e,_⟩|⟨_,e,_⟩<;>cases e;done)|(split at hc<;>cases hc;done)|(simp only[Option.map_eq_some_iff]at hc;obtain⟨_,_,hc⟩:=hc;cases hc))
theorem Vw{id:Nat}(h:Q (.exit id) st):Awp P (.exit id) Q st:=by
 intro c E tm w hc hP R
 cases c<;>simp only[codeOf,Option.some.injEq,reduceCtorEq]at hc
 case exit=>cases hc;exact wp_exit ⟨rfl,st,R,h⟩
 all_goals (first|(rcases Bu hc with⟨_,_,e,_⟩|⟨_,e,_⟩<;>cases e;done)|(split at hc<;>cases hc;done)|(simp only[Option.map_eq_some_iff]at hc;obtain⟨_,_,hc⟩:=hc;cases hc))
theorem Xi(h:Q .ret st):Awp P .ret Q st:=by
 intro c E tm w hc hP R
 cases c<;>simp only[codeOf,Option.some.injEq,reduceCtorEq]at hc
 case ret=>exact wp_ret ⟨rfl,st,R,h⟩
 all_goals (first|(rcases Bu hc with⟨_,_,e,_⟩|⟨_,e,_⟩<;>cases e;done)|(split at hc<;>cases hc;done)|(simp only[Option.map_eq_some_iff]at hc;obtain⟨_,_,hc⟩:=hc;cases hc))
def AEx.then(K:St→Prop)(Q:AEx→St→Prop):AEx→St→Prop
 |.normal,st=>K st
 |e,st=>Q e st
theorem Xj(h:Awp P A (AEx.then (Awp P B Q) Q) st):Awp P (.seq A B) Q st:=by
 intro c E tm w hc hP R
 cases c<;>simp only[codeOf,Option.some.injEq,reduceCtorEq]at hc
 case seq x y=>
  split at hc
  case h_2=>cases hc
  rename_i a b ha hb
  cases hc
  refine wp_seq (wp_mono (h x E tm w ha hP R) ?_)
  intro e a w hq
  cases e with
  |normal=>
   obtain⟨h1,st',h2,h3⟩:=hq
   obtain⟨tm',ds⟩:=a
   cases h1
   exact h3 y E tm' w hb hP h2
  |exit id=>exact hq
  |ret=>exact hq
  |panic ch=>exact hq
  |_=>exact hq.elim
 all_goals (first|(rcases Bu hc with⟨_,_,e,_⟩|⟨_,e,_⟩<;>cases e;done)|(split at hc<;>cases hc;done)|(simp only[Option.map_eq_some_iff]at hc;obtain⟨_,_,hc⟩:=hc;cases hc))
theorem Vu{x:Opd}(h:(st.Fm true x).holds fun b=>(b=true→Awp P A Q st)∧(b=false→Awp P B Q st)):Awp P (.cond x A B) Q st:=by
 intro c E tm w hc hP R
 cases c<;>simp only[codeOf,Option.some.injEq,reduceCtorEq]at hc
 case cond o x' y=>
  split at hc
  case h_2=>cases hc
  rename_i xo a b hx ha hb
  cases hc
  obtain⟨lam,z,fp,R1,F1⟩:=R
  subst hP
  obtain⟨v,h1,h2⟩:=E8 h
  have he:=Bz (ds:=[]) R1 F1 rfl hx h1
  refine wp_cond_split he (fun hv=>?_) (fun hv=>?_)
  ·exact h2.1 hv x' E tm w ha rfl ⟨lam,z,fp,R1,F1⟩
  ·exact h2.2 hv y E tm w hb rfl ⟨lam,z,fp,R1,F1⟩
 all_goals (first|(rcases Bu hc with⟨_,_,e,_⟩|⟨_,e,_⟩<;>cases e;done)|(split at hc<;>cases hc;done)|(simp only[Option.map_eq_some_iff]at hc;obtain⟨_,_,hc⟩:=hc;cases hc))
def AEx.inBlock(id:Nat)(Q:AEx→St→Prop):AEx→St→Prop
 |.exit id',st=>if id'=id then Q .normal st else Q (.exit id') st
 |e,st=>Q e st
theorem Uo{id:Nat}(h:Awp P A (AEx.inBlock id Q) st):Awp P (.block id A) Q st:=by
 intro c E tm w hc hP R
 cases c<;>simp only[codeOf,Option.some.injEq,reduceCtorEq]at hc
 case block id' x=>
  simp only[Option.map_eq_some_iff]at hc
  obtain⟨a,ha,hc⟩:=hc
  cases hc
  refine wp_block (wp_mono (h x E tm w ha hP R) ?_)
  intro e a w hq
  cases e with
  |exit id'=>
   obtain⟨h1,st',h2,h3⟩:=hq
   simp only[Exit.inBlock]
   simp only[AEx.inBlock]at h3
   split
   ·rename_i hi;rw[if_pos hi]at h3;exact⟨h1,st',h2,h3⟩
   ·rename_i hi;rw[if_neg hi]at h3;exact⟨h1,st',h2,h3⟩
  |normal=>exact hq
  |ret=>exact hq
  |panic ch=>exact hq
  |_=>exact hq.elim
 all_goals (first|(rcases Bu hc with⟨_,_,e,_⟩|⟨_,e,_⟩<;>cases e;done)|(split at hc<;>cases hc;done)|(simp only[Option.map_eq_some_iff]at hc;obtain⟨_,_,hc⟩:=hc;cases hc))
open Classical in
noncomputable def least(p:Nat→Prop):Nat:=if h:∃n,p n∧∀m,m<n→¬p m then h.choose else 0
theorem Rj{p:Nat→Prop}{n:Nat}(h:p n):p (least p)∧least p≤n:=by
 have key:∃n,p n∧∀m,m<n→¬p m:=by
  induction n using Nat.strongRecOn with
  |_ n ih=>
   by_cases hm:∃m,m<n∧p m
   ·obtain⟨m,h1,h2⟩:=hm
    exact ih m h1 h2
   ·exact⟨n,h,fun m h1 h2=>hm ⟨m,h1,h2⟩⟩
 have hc:=key.choose_spec
 unfold least
 rw[dif_pos key]
 refine⟨hc.1,Nat.le_of_not_lt fun hlt=>hc.2 n hlt h⟩
theorem Vx(I:Nat→St→Prop){n:Nat}(h0:I n st)(round:∀n st,I n st→Awp P A (AEx.then (fun st'=>∃m,m<n∧I m st') Q) st):Awp P (.loop A) Q st:=by
 intro c E tm w hc hP R
 cases c<;>simp only[codeOf,Option.some.injEq,reduceCtorEq]at hc
 case loop x=>
  simp only[Option.map_eq_some_iff]at hc
  obtain⟨a,ha,hc⟩:=hc
  cases hc
  let J:Act→World→Nat→Prop:=fun a w n=>a.defers=[]∧∃st,Rel E st a.tmps w∧I n st
  refine wp_loop (fun a w=>∃n,J a w n) (fun a w=>least (J a w)) ⟨n,rfl,st,R,h0⟩ ?_
  rintro⟨tm1,ds1⟩ w1 ⟨n1,h1⟩
  obtain⟨h2,hle⟩:=Rj h1
  obtain⟨hds,st1,R1,hI⟩:=h2
  cases hds
  refine wp_mono (round _ st1 hI x E tm1 w1 ha hP R1) ?_
  intro e a2 w2 hq
  cases e with
  |normal=>
   obtain⟨q1,st2,q2,m,q3,q4⟩:=hq
   have hJ:J a2 w2 m:=⟨q1,st2,q2,q4⟩
   exact⟨⟨m,hJ⟩,Nat.lt_of_le_of_lt (Rj hJ).2 q3⟩
  |exit id=>exact hq
  |ret=>exact hq
  |panic ch=>exact hq
  |_=>exact hq.elim
 all_goals (first|(rcases Bu hc with⟨_,_,e,_⟩|⟨_,e,_⟩<;>cases e;done)|(split at hc<;>cases hc;done)|(simp only[Option.map_eq_some_iff]at hc;obtain⟨_,_,hc⟩:=hc;cases hc))
theorem Sr{ops:List GOp}(h:Fy P ops (Q .normal) st):Awp P (.region ops false) Q st:=by
 intro c E tm w hc hP R
 cases c<;>simp only[codeOf,Option.some.injEq,reduceCtorEq]at hc
 case region id os draw=>
  obtain⟨gs,hdraw,hA,hgs⟩|⟨_,hA,_⟩:=Bu hc
  case inr=>cases hA
  subst hdraw
  cases hA
  subst hP
  obtain⟨e1,e2⟩:=Pe hgs
  have hlen:ops.length=os.size:=by simpa using e1
  refine wp_region ?_
  have hm1:((List.range os.size).zip ops).map (·.1)=List.range os.size:=List.map_fst_zip (by simp[hlen])
  have hm2:((List.range os.size).zip ops).map (·.2)=ops:=List.map_snd_zip (by simp[hlen])
  rw[←hm1]
  refine Ry (K:=Q .normal) ((List.range os.size).zip ops) ?_ R (by rw[hm2];exact h) (fun ch tm' w' hk=>⟨rfl,hk⟩) (fun st' tm' w' hk hr=>⟨rfl,st',hr,hk⟩)
  intro p hp
  obtain⟨i,hi⟩:=List.mem_iff_getElem?.1 hp
  obtain⟨hi1,hi2⟩:=List.getElem?_zip_eq_some.1 hi
  have hlt:i<os.size:=by
   have:=(List.getElem?_eq_some_iff.1 hi1).1
   simpa using this
  have hpi:p.1=i:=by
   rw[List.getElem?_range hlt]at hi1
   exact(Option.some.inj hi1).symm
  rw[hpi]
  refine⟨os[i],Array.getElem?_eq_getElem hlt,?_⟩
  obtain⟨g,hg,hgo⟩:=e2 i os[i] (by simp[hlt])
  rw[hi2]at hg
  cases hg
  exact hgo
 all_goals (first|(rcases Bu hc with⟨_,_,e,_⟩|⟨_,e,_⟩<;>cases e;done)|(split at hc<;>cases hc;done)|(simp only[Option.map_eq_some_iff]at hc;obtain⟨_,_,hc⟩:=hc;cases hc))
theorem Vv{ts:List GO}(h:∀t∈ts,Cc P t (Q .normal) st):Awp P (.draw ts) Q st:=by
 intro c E tm w hc hP R
 cases c<;>simp only[codeOf,Option.some.injEq,reduceCtorEq]at hc
 case region id os draw=>
  obtain⟨_,_,hA,_⟩|⟨ts',hA,hdraw,hsel,hts⟩:=Bu hc
  case inl=>cases hA
  subst hdraw
  cases hA
  subst hP
  have R':Rel E st tm {w with drawn:=w.drawn+1}:=by
   obtain⟨lam,z,fp,R1,F1⟩:=R
   have hm:Moves (fun _=>False) w {w with drawn:=w.drawn+1}:=⟨rfl,rfl,rfl,Nat.le_refl _,fun _ _ _=>rfl⟩
   exact⟨lam,z,fp,R1.grow hm,F1.grow R1 hm⟩
  have run:∀(md:Region.Mode) (t:GO) (n:Nat),t∈ts→EV md os E.P E.nt os.size (Array.replicate os.size false)=some t→
    wpOps E.P os (lift E Q) (Region.linearise md os n) ⟨tm,[]⟩ {w with drawn:=w.drawn+1}:=by
   intro md t n htm ht
   refine wpAny_sound os.size n _ _ _ (Nf _ _ _ _ ?_)
   exact XV (K:=Q .normal) (Region.noSelect_spec hsel) (fun c tm tm' w h=>h) (fun c tm ds' w h=>h.1) (fun ch tm' w' hk=>⟨rfl,hk⟩) (fun st' tm' w' hk hr=>⟨rfl,st',hr,hk⟩) _ _ t st tm _ ht R' (h t htm)
  refine wp_region_draw fun n=>?_
  unfold Region.schedule
  rcases hts with⟨t,rfl,hm,ht⟩|⟨t,u,rfl,hm,ht,hu⟩
  ·rw[if_pos hm]
   exact run .any t n (by simp) ht
  ·rw[if_neg (by simp[hm])]
   split
   ·exact run .text t _ (by simp) ht
   ·exact run .gc u _ (by simp) hu
 all_goals (first|(rcases Bu hc with⟨_,_,e,_⟩|⟨_,e,_⟩<;>cases e;done)|(split at hc<;>cases hc;done)|(simp only[Option.map_eq_some_iff]at hc;obtain⟨_,_,hc⟩:=hc;cases hc))
end
end Go.VS
namespace Go.VS
inductive JF
 |tmp (t:Nat)
 |cell (t:Nat) (agg:Bool) (n:Nat)
 deriving Inhabited
def G4(P:Pg):List ResultVar→Option (List JF)
 |[]=>some []
 |.tmp t::r=>(G4 P r).map (.tmp t::·)
 |.cell a t::r=>match CY? P t,sizeOf? P t,G4 P r with
  |some agg,some n,some l=>if agg=true∨n=1 then some (.cell a agg n::l)else none
  |_,_,_=>none
def St.HW(st:St):JF→M (SV×St)
 |.tmp t=>st.take true (.t t)
 |.cell t agg n=>do
  let s←st.A5 true (.load agg n (.t t))
  let(l,st1,rs)←st.B5 st.ver true s.cells
  pure (s.with l,st1.bumps rs)
def St.ET(st:St):List JF→M (List SV×St)
 |[]=>pure ([],st)
 |x::r=>do
  let(s,st1)←st.HW x
  let(l,st2)←st1.ET r
  pure (s::l,st2)
def gather:List SV→TV
 |[s]=>.val true s
 |l=>.tup l
structure AFn where
 name:String
 code:Hk
 res:List JF
 np:Nat
def Has(P:Pg)(F:AFn):Prop:=
 ∀(f:FuncId) (fn:Func),P.funcs[f]?=some fn→fn.name=F.name→(fn.name== "runtime.NumGoroutine")=false∧F.np≤fn.ntmps∧G4 P fn.results.toList=some F.res∧∃c,fn.body=some c∧codeOf P fn.ntmps c=some F.code
section
variable{E:Env}{lam:Nat→Nat}{z:Nat→Prop}{fp:Ky→List Nat}{hd:Hands}{st:St}{tm:Array Value}{w:World}
def Lq(tm:Array Value):ResultVar→Sem Value
 |.tmp t=>pure (tm.getD t undef)
 |.cell a t=>do loadVar t (←asAddr (tm.getD a undef))
theorem S8(fn:Func)(tm:Array Value):results fn tm=(do let vs←fn.results.mapM (Lq tm);pure (if h:vs.size=1 then vs[0]else .tuple vs)):=by
 unfold results
 congr 1
theorem Tq{la:List AV}{lv:List Value}(R:Ax E lam z fp (upd Am 0 (la,lv)) st tm w)(F:Refs st tm w lam){x:ResultVar}{y:JF}(hx:G4 E.P [x]=some [y]){s:SV}{st1:St}(h:(st.HW y).holds (·=(s,st1))):
  ∃fp' v,(Lq tm x).run E.P w=.ok v w∧X1 E lam z true st tm w la lv s v st1 fp':=by
 cases x with
 |tmp t=>
  simp only[G4,Option.map_some,Option.some.injEq,List.cons.injEq,and_true]at hx
  subst hx
  simp only[St.HW]at h
  obtain⟨fp',T⟩:=Mj R F (show AA E.P (.tmp t)=some (.t t)from rfl) h []
  exact⟨fp',_,rfl,T⟩
 |cell a t=>
  simp only[G4]at hx
  split at hx
  case h_2=>cases hx
  rename_i agg n l hagg hn hl
  split at hx
  case isFalse=>cases hx
  rename_i h1n
  simp only[Option.some.injEq,List.cons.injEq]at hx
  obtain⟨rfl,_⟩:=hx
  simp only[St.HW,M.Aa]at h
  rw[M.Aw]at h
  obtain⟨s0,h0,h⟩:=h
  rw[M.Aw]at h
  obtain⟨⟨l',st',rs⟩,h1,h⟩:=h
  rw[M.Ad]at h
  cases h
  obtain⟨v,w',hrun,hr,_,hsame⟩:=Wr (ds:=[]) (o:={dst:=none,op:=.load t (.tmp a),type:=0,pos:= "",after:=#[],guard:=none}) R F rfl (show AA E.P (.tmp a)=some (.t a)from rfl) hagg hn h1n rfl h0
  obtain rfl:=hsame rfl
  obtain⟨f,hm,hu,hnd,hfr,hrefs⟩:=hr
  have hf:f=[]:=by
   cases f with
   |nil=>rfl
   |cons b f=>have:=hfr b (by simp);omega
  subst hf
  obtain⟨fp',R1,S1,hl,hc,hmm⟩:=FY st true s0.cells (vcells s0 v) st [] la lv fp l' st' rs R (Sh.refl st) hu.cells hrefs h1
  obtain⟨hf1,hf2,hf3⟩:=hu.fits hl
  simp only[List.nil_append]at S1
  refine⟨fp',v,?_,⟨?_,F.shift S1,?_,hf1,?_,?_,?_,?_⟩⟩
  ·simp only[execOp,Instr.loadAt,Act.eval,Sem.run_bind]at hrun
   simp only[Lq,Sem.run_bind]
   generalize tm.getD a undef=p at hrun
   cases p with
   |pointer ad=>
    cases ad with
    |none=>simp[Instr.sureAddr,stuck]at hrun
    |some ad=>
     simp only[Instr.sureAddr,asAddr,Sem.run_pure,Result.andThen_ok]at hrun⊢
     cases hlv:(loadVar t ad).run E.P w' with
     |ok u u'=>rw[hlv]at hrun;simp at hrun;rw[hrun.1,hrun.2]
     |halt=>rw[hlv]at hrun;simp at hrun
   |_=>simp[Instr.sureAddr,stuck]at hrun
  ·rw[hf2,hf3];exact R1.bumps rs
  ·intro j a u hj hu'
   rw[hf2]at hj
   rw[hf3]at hu'
   exact(hc j a u hj hu').shift S1
  ·rw[(A1 st' rs).2];exact S1.next
  ·intro hmem a ha;rw[hf2]at ha;exact hmm hmem a ha
  ·rw[hf2,hf3,hl];exact hu.cells.length
  ·rw[hf3];exact GG hu
def QT:List SV→List AV
 |[]=>[]
 |s::l=>s.cells++QT l
def QU:List SV→List Value→List Value
 |s::l,v::m=>vcells s v++QU l m
 |_,_=>[]
theorem Ou:∀{xs:List ResultVar} {ys:List JF} {la:List AV} {lv:List Value} {st:St} {fp:Ky→List Nat} {ss:List SV} {st1:St},Ax E lam z fp (upd Am 0 (la,lv)) st tm w→Refs st tm w lam→G4 E.P xs=some ys→
  (st.ET ys).holds (·=(ss,st1))→∃fp' vs,(xs.mapM (Lq tm)).run E.P w=.ok vs w∧Ax E lam z fp' (upd Am 0 (la++QT ss,lv++QU ss vs)) st1 tm w∧vs.length=ss.length∧
   (∀C f,RVs C w (QT ss) (QU ss vs) f→D5 C w ss vs f)
 |[],ys,la,lv,st,fp,ss,st1,R,F,hx,h=>by
  simp only[G4,Option.some.injEq]at hx
  subst hx
  simp only[St.ET]at h
  rw[M.Ad]at h
  cases h
  refine⟨fp,[],by simp,by simpa[QT,QU]using R,rfl,?_⟩
  intro C f h
  exact h.TZ rfl
 |x::xs,ys,la,lv,st,fp,ss,st1,R,F,hx,h=>by
  have hsplit:∃y ys',ys=y::ys'∧G4 E.P [x]=some [y]∧G4 E.P xs=some ys':=by
   cases x with
   |tmp t=>
    simp only[G4,Option.map_eq_some_iff]at hx
    obtain⟨l,hl,rfl⟩:=hx
    exact⟨_,l,rfl,rfl,hl⟩
   |cell a t=>
    simp only[G4]at hx
    split at hx
    case h_2=>cases hx
    rename_i agg n l hagg hn hl
    split at hx
    case isFalse=>cases hx
    rename_i h1
    cases hx
    exact⟨_,l,rfl,by simp[G4,hagg,hn,h1],hl⟩
  obtain⟨y,ys',rfl,hy,hys⟩:=hsplit
  simp only[St.ET,M.Aa]at h
  rw[M.Aw]at h
  obtain⟨⟨s,st2⟩,h1,h⟩:=h
  rw[M.Aw]at h
  obtain⟨⟨l,st3⟩,h2,h⟩:=h
  rw[M.Ad]at h
  cases h
  obtain⟨fp1,v,hr,T⟩:=Tq R F hy h1
  obtain⟨fp2,vs,hrs,R2,hlen,hfit⟩:=Ou T.rel T.refs hys h2
  refine⟨fp2,v::vs,?_,?_,by simp[hlen],?_⟩
  ·simp[List.mapM_cons,hr,hrs]
  ·simpa[QT,QU,List.append_assoc]using R2
  ·intro C f hc
   simp only[QT,QU]at hc
   obtain⟨m1,m2,f1,f2,em,ef,r1,r2⟩:=RVs.split s.cells hc
   obtain⟨rfl,rfl⟩:=List.append_inj em (by rw[←T.len];exact r1.length)
   exact⟨f1,f2,ef,T.fits _ _ _ r1,hfit _ _ r2⟩
theorem V0{ss:List SV}{vs:List Value}{K:TV→Heap→Prop}(R:Ax E lam z fp (upd Am 0 (QT ss,QU ss vs)) st tm w)(hlen:vs.length=ss.length)(hfit:∀C f,RVs C w (QT ss) (QU ss vs) f→D5 C w ss vs f)
  (hk:K (gather ss) st.hp) (hkept:(gather ss).kept=true):
  Gives E K (if h:vs.toArray.size=1 then vs.toArray[0]else .tuple vs.toArray) w:=by
 generalize hv:(if h:vs.toArray.size=1 then vs.toArray[0]else .tuple vs.toArray:Value)=v
 have hkey:=R.keys (.h 0)
 simp only[AB,upd,if_true]at hkey
 have hss:=hfit _ _ hkey
 have hres:RTV (ctx E lam z st.hp.next) w (gather ss) v (fp (.h 0)):=by
  match ss,vs,hlen with
  |[],[],_=>
   simp at hv
   subst hv
   exact⟨#[],rfl,hss⟩
  |[s],[u],_=>
   simp at hv
   subst hv
   obtain⟨f1,f2,e,h1,h2⟩:=hss
   have h2:f2=[]:=h2
   rw[e,h2,List.append_nil]
   exact⟨fun _=>h1,fun h=>nomatch h⟩
  |s::s'::l,u::u'::m,_=>
   simp at hv
   subst hv
   exact⟨_,rfl,hss⟩
 refine⟨gather ss,st.hp,lam,z,fun κ=>match κ with|.s t=>if t=0 then fp (.h 0)else[]|.o o=>fp (.o o)|.h _=>[],hk,hkept,?_⟩
 refine⟨?_,⟨?_,?_,?_⟩,R.z,R.frame,R.os,R.tape,R.output,R.size,rfl,R.base,⟨R.i0.own,R.i0.lt,R.i0.eq,R.i0.good⟩⟩
 ·intro κ
  cases κ with
  |s t=>
   simp only[AB,fin]
   split
   ·rename_i ht
    subst ht
    exact hres
   ·rfl
  |o o=>exact R.keys (.o o)
  |h i=>exact RVs.nil
 ·intro κ
  cases κ with
  |s t=>
   dsimp only
   split
   ·exact R.fps.nod _
   ·exact List.nodup_nil
  |o o=>exact R.fps.nod _
  |h i=>exact List.nodup_nil
 ·intro κ κ' b hne hb hb'
  cases κ with
  |s t=>
   dsimp only at hb
   split at hb
   case isFalse=>cases hb
   rename_i ht
   cases κ' with
   |s t'=>
    dsimp only at hb'
    split at hb'
    ·rename_i ht';subst ht;subst ht';exact hne rfl
    ·cases hb'
   |o o=>exact R.fps.dis _ _ b (by simp) hb hb'
   |h i=>cases hb'
  |o o=>
   cases κ' with
   |s t'=>
    dsimp only at hb'
    split at hb'
    ·exact R.fps.dis _ _ b (by simp) hb hb'
    ·cases hb'
   |o o'=>exact R.fps.dis _ _ b (by intro e;exact hne e) hb hb'
   |h i=>cases hb'
  |h i=>cases hb
 ·intro κ b hb
  cases κ with
  |s t=>
   dsimp only at hb
   split at hb
   ·exact R.fps.ok _ b hb
   ·cases hb
  |o o=>exact R.fps.ok _ b hb
  |h i=>cases hb
def AEx.done:AEx→Bool
 |.exit _=>false
 |_=>true
def VU(res:List JF)(K:TV→Heap→Prop):AEx→St→Prop:=fun e st=>
 e.done=true∧(st.ET res).holds fun(ss,st')=>K (gather ss) st'.hp∧(gather ss).kept=true
theorem Vn{P:Pg}{F:AFn}(hF:Has P F){args:List SV}{H:Heap}{K:TV→Heap→Prop}(hnp:args.length=F.np)
  (h:Awp P F.code (VU F.res K) (start args H)):
  GN P F.name args H K:=by
 intro f fn hf hn
 obtain⟨hng,hnt,hres,c,hbody,hcode⟩:=hF f fn hf hn
 refine⟨by rw[hbody];rfl,hng,?_⟩
 intro E w vs lam fp hP hw hn0 hnt2 hlen R hsol
 subst hP
 let E2:Env:=⟨E.P,E.w0,E.f0,E.i0,fn.ntmps,E.n0,E.l0,E.lw⟩
 let tm:Array Value:=vs++Array.replicate (fn.ntmps -vs.size) undef
 have hts:tm.size=fn.ntmps:=by simp[tm];omega
 have R2:Ax E2 lam (fun _=>False) fp Am (start args H) tm w:=by
  refine⟨?_,⟨R.fps.nod,R.fps.dis,R.fps.ok⟩,R.z,R.frame,R.os,R.tape,R.output,R.size,hts,R.base,⟨R.i0.own,R.i0.lt,R.i0.eq,R.i0.good⟩⟩
  intro κ
  have:=R.keys κ
  cases κ with
  |s t=>
   simp only[AB,start]at this⊢
   by_cases ht:t<vs.size
   ·have e:tm.getD t undef=vs.getD t undef:=by simp[tm,Array.getD_eq_getD_getElem?,Array.getElem?_append_left ht]
    rw[e]
    exact this
   ·have e:args[t]?=none:=List.getElem?_eq_none (by omega)
    rw[e]at this⊢
    exact this
  |o o=>exact this
  |h i=>exact this
 have F2:Refs (start args H) tm w lam:=by
  intro t s hs j a u hj _
  simp only[start]at hs
  cases ht:args[t]?with
  |none=>rw[ht]at hs;cases hs
  |some s'=>
   rw[ht]at hs
   cases hs
   exact HQ (List.all_eq_true.1 (hsol t _ ht) a (List.mem_of_getElem? hj))
 refine calls_of_wp hf hbody (wp_mono (h c E2 tm w hcode rfl ⟨lam,_,fp,R2,F2⟩) ?_)
 have fin:∀(a:Act) (w':World),(a.defers=[]∧∃st,Rel E2 st a.tmps w'∧(st.ET F.res).holds fun(ss,st')=>K (gather ss) st'.hp∧(gather ss).kept=true)→
   a.defers=[]∧∃v,(results fn a.tmps).run E.P w'=.ok v w'∧Gives E K v w':=by
  rintro a w' ⟨hds,st,⟨lam',z',fp',R3,F3⟩,hq⟩
  rw[M.Aw]at hq
  obtain⟨⟨ss,st'⟩,h1,h2,h3⟩:=hq
  have R4:Ax E2 lam' z' fp' (upd Am 0 ([],[])) st a.tmps w':=by rw[CH];exact R3
  obtain⟨fp5,us,hr,R5,hl,hfit⟩:=Ou R4 F3 hres h1
  refine⟨hds,(if h:us.toArray.size=1 then us.toArray[0]else .tuple us.toArray),?_,?_⟩
  ·have hr':(fn.results.toList.mapM (Lq a.tmps)).run E.P w'=.ok us w':=hr
   rw[S8,Array.mapM_eq_mapM_toList]
   simp[hr']
  ·have:=V0 (K:=K) (E:=E2) R5 hl hfit h2 h3
   exact this
 intro e a w' hq
 cases e with
 |normal=>
  obtain⟨h1,st,h2,_,h3⟩:=hq
  exact fin a w' ⟨h1,st,h2,h3⟩
 |ret=>
  obtain⟨h1,st,h2,_,h3⟩:=hq
  exact fin a w' ⟨h1,st,h2,h3⟩
 |exit id=>
  obtain⟨h1,st,h2,h3,_⟩:=hq
  cases h3
 |panic ch=>exact hq
 |_=>exact hq.elim
end
def Yb(P:Pg)(name:String)(i:Nat):Bool:=(List.range P.funcs.size).all fun f=>f==i||match P.funcs[f]?with
 |some fn=>fn.name !=name
 |none=>true
theorem BD{P:Pg}{F:AFn}(i:Nat)(fn:Func)(h1:Yb P F.name i=true)(h2:P.funcs[i]?=some fn)(h3:(fn.name== "runtime.NumGoroutine")=false)(h4:F.np≤fn.ntmps)(h5:G4 P fn.results.toList=some F.res)
  (h6:fn.body.bind (codeOf P fn.ntmps)=some F.code):Has P F:=by
 intro f fn' hf hn
 have hlt:=(Array.getElem?_eq_some_iff.1 hf).1
 have h:=List.all_eq_true.1 h1 f (by simpa using hlt)
 simp only[hf,Bool.or_eq_true,beq_iff_eq,bne_iff_ne,ne_eq]at h
 have hfi:=h.resolve_right (fun h=>h hn)
 subst hfi
 rw[h2]at hf
 cases hf
 rw[Option.bind_eq_some_iff]at h6
 obtain⟨c,hc,hcode⟩:=h6
 exact⟨h3,h4,h5,c,hc,hcode⟩
end Go.VS
namespace Go.VS
open Go.RowKit
def Late(P:Pg)(w:World):Prop:=∃lw:World,HY P lw∧∀b,b<lw.heap.size→w.heap[b]?=lw.heap[b]?
theorem Late.good{P:Pg}{w:World}(h:Late P w):HY P w:=by
 obtain⟨lw,h1,h2⟩:=h
 exact h1.of h2
theorem Late.of{P:Pg}{w w':World}(h:Late P w)(hb:Below w.heap.size w w'):Late P w':=by
 obtain⟨lw,h1,h2⟩:=h
 refine⟨lw,h1,fun b hl=>?_⟩
 have e:=h2 b hl
 have hlt:b<w.heap.size:=by
  rcases Nat.lt_or_ge b w.heap.size with h|h
  ·exact h
  ·rw[Array.getElem?_eq_none h,Array.getElem?_eq_getElem hl]at e;cases e
 exact(hb.block b hlt).trans e
def E9(P:Pg)(w:World)(args:List SV)(vs:Array Value):Prop:=vs.size=args.length∧∀(t:Nat) (s:SV),args[t]?=some s→∃(C:Ctx) (f:List Nat),C.P=P.toProgram∧RSV C w s (vs.getD t undef) f
theorem JP{P:Pg}{nm:String}{args:List SV}{H:Heap}{K:TV→Heap→Prop}{r:TV}(hk:r.kept=true)(hK:K r H)
  (h:∀f fn,P.funcs[f]?=some fn→fn.name=nm→fn.body.isSome=true∧(fn.name== "runtime.NumGoroutine")=false∧∀(w:World) (vs:Array Value),Late P w→E9 P w args vs→
   Calls P f vs w fun e w'=>∃v,e=.returned v∧(∀C,C.P=P.toProgram→RTV C w' r v [])∧Below w.heap.size w w'):GN P nm args H K:=by
 intro f fn hf hn
 obtain⟨h1,h2,h3⟩:=h f fn hf hn
 refine⟨h1,h2,fun E w vs lam fp hP hw hn0 hnt hlen R hsol=>?_⟩
 subst hP
 refine(h3 w vs ⟨E.lw,R.i0.good,fun b hb=>?_⟩ ⟨hlen,fun t s ht=>?_⟩).mono ?_
 ·exact(R.frame b (R.i0.lt b hb).1 (R.i0.lt b hb).2).trans (R.i0.eq b hb)
 ·have:=R.keys (.s t)
  simp only[AB,start,ht]at this
  exact⟨_,_,rfl,this.1 rfl⟩
 rintro e w' ⟨v,rfl,hv,bel⟩
 have R':=R.grow (w':=w') ⟨bel.os,bel.tape,bel.output,bel.size,fun b hb _=>bel.block b hb⟩
 refine⟨r,H,lam,fun _=>False,fun κ=>match κ with|.o o=>fp (.o o)|_=>[],hK,hk,?_⟩
 refine⟨?_,⟨?_,?_,?_⟩,R'.z,R'.frame,R'.os,R'.tape,R'.output,R'.size,rfl,R'.base,⟨R'.i0.own,R'.i0.lt,R'.i0.eq,R'.i0.good⟩⟩
 ·intro κ
  cases κ with
  |s t=>
   simp only[AB,fin]
   split
   ·rename_i ht
    subst ht
    exact hv _ rfl
   ·rfl
  |o o=>exact R'.keys (.o o)
  |h i=>exact RVs.nil
 ·intro κ
  cases κ with
  |o o=>exact R'.fps.nod _
  |_=>exact List.nodup_nil
 ·intro κ κ' b hne hb hb'
  cases κ with
  |o o=>
   cases κ' with
   |o o'=>exact R'.fps.dis _ _ b (by intro e;exact hne e) hb hb'
   |_=>cases hb'
  |_=>cases hb
 ·intro κ b hb
  cases κ with
  |o o=>exact R'.fps.ok _ b hb
  |_=>cases hb
theorem EB{P:Pg}(hkp:∀v,¬P.kp v){nm:String}{args:List SV}{K:TV→Heap→Prop}(h:GN P nm args Heap.empty K){f:FuncId}{fn:Func}(hf:P.funcs[f]?=some fn)(hn:fn.name=nm){w:World}(hw:Late P w){vs:Array Value}(hlen:vs.size=args.length)
  (hz:∀(t:Nat) (s:SV),args[t]?=some s→s.cells.all AV.solid=true∧∀C:Ctx,C.P=P.toProgram→(∀b,b<w.heap.size→C.zb b∧C.zt b)→RSV C w s (vs.getD t undef) []):
  Calls P f vs w fun e w'=>∃v,e=.returned v∧Below w.heap.size w w'∧∃r H',K r H'∧r.kept=true∧∃(C:Ctx) (f:List Nat),C.P=P.toProgram∧RTV C w' r v f:=by
 obtain⟨_,_,h3⟩:=h f fn hf hn
 obtain⟨lw,hg,hl⟩:=hw
 have hsz:lw.heap.size≤w.heap.size:=by
  rcases Nat.lt_or_ge w.heap.size lw.heap.size with h|h
  ·have e:=hl _ h
   rw[Array.getElem?_eq_none (Nat.le_refl _),Array.getElem?_eq_getElem h]at e;cases e
  ·exact h
 let E:Env:=⟨P,w,fun _=>False,fun b=>b<w.heap.size,vs.size,0,fun _=>0,lw⟩
 have R:Ax E (fun _=>0) (fun _=>False) (fun _=>[]) Am (start args Heap.empty) vs w:=by
  refine⟨?_,⟨fun _=>List.nodup_nil,fun _ _ _ _ h=>(nomatch h),fun _ _ h=>(nomatch h)⟩,fun _ h=>h.elim,fun _ _ _=>rfl,rfl,rfl,rfl,Nat.le_refl _,rfl,⟨Nat.le_refl _,fun o ho=>absurd ho (Nat.not_lt_zero _)⟩,⟨fun b hb=>⟨hb,id⟩,fun b hb=>⟨Nat.lt_of_lt_of_le hb hsz,id⟩,hl,hg⟩⟩
  intro κ
  cases κ with
  |s t=>
   simp only[AB,start]
   cases hs:args[t]?with
   |none=>rfl
   |some s=>exact⟨fun _=>(hz t s hs).2 _ rfl fun b hb=>⟨.inl ⟨hb,id⟩,.inl hb⟩,fun h=>nomatch h⟩
  |o o=>intro l hl;cases hl
  |h i=>exact RVs.nil
 refine(h3 E w vs (fun _=>0) (fun _=>[]) rfl rfl rfl rfl hlen R fun t s hs=>(hz t s hs).1).mono fun e w' he=>?_
 cases e with
 |returned v=>
  obtain⟨r,H',lam,z,fp,hk,hkept,R'⟩:=he
  exact⟨v,rfl,⟨R'.os,R'.tape,R'.output,R'.size,fun b hb=>R'.frame b hb id⟩,r,H',hk,hkept,_,_,rfl,R'.keys (.s 0)⟩
 |panicked ch=>
  obtain⟨v,_,hv,_⟩:=he
  exact(hkp v hv).elim
 |_=>exact he.elim
end Go.VS
namespace Go.VS
mutual
inductive Co:AV→AV→Prop
 |refl (a:AV):Co a a
 |nil (τ:Tag) (k:Nat):Co (.lit (.slice none 0 0)) (.sl τ k [])
 |sl (τ τ':Tag) (k:Nat) (xs ys:List (List AV)) (h:τ=τ'∨(τ=.imm∧τ'=.brw)) (hl:B6 xs ys):Co (.sl τ k xs) (.sl τ' k ys)
inductive CoL:List AV→List AV→Prop
 |nil:CoL [] []
 |cons (a b:AV) (l m:List AV) (h:Co a b) (t:CoL l m):CoL (a::l) (b::m)
inductive B6:List (List AV)→List (List AV)→Prop
 |nil:B6 [] []
 |cons (a b:List AV) (l m:List (List AV)) (h:CoL a b) (t:B6 l m):B6 (a::l) (b::m)
end
theorem CoL.refl:∀l,CoL l l
 |[]=>.nil
 |a::l=>.cons a a l l (.refl a) (CoL.refl l)
theorem B6.refl:∀l,B6 l l
 |[]=>.nil
 |a::l=>.cons a a l l (CoL.refl a) (B6.refl l)
theorem CoL.length:∀{l m:List AV},CoL l m→l.length=m.length
 |_,_,.nil=>rfl
 |_,_,.cons _ _ _ _ _ t=>by simp[t.length]
theorem B6.length:∀{l m:List (List AV)},B6 l m→l.length=m.length
 |_,_,.nil=>rfl
 |_,_,.cons _ _ _ _ _ t=>by simp[t.length]
theorem B6.lens{k:Nat}:∀{l m:List (List AV)},B6 l m→(∀x∈l,x.length=k)→∀x∈m,x.length=k
 |_,_,.nil,_,x,hx=>by cases hx
 |_,_,.cons a b l m h t,hk,x,hx=>by
  rcases List.mem_cons.1 hx with rfl|hx
  ·rw[←h.length];exact hk a (by simp)
  ·exact t.lens (fun y hy=>hk y (by simp[hy])) x hx
theorem CoL.get:∀{l m:List AV},CoL l m→∀{j:Nat} {a:AV},l[j]?=some a→∃b,m[j]?=some b∧Co a b
 |_,_,.nil,j,a,h=>by simp at h
 |_,_,.cons a b l m h t,0,x,hx=>by simp at hx;subst hx;exact⟨b,rfl,h⟩
 |_,_,.cons a b l m h t,j+1,x,hx=>by simpa using t.get (j:=j) (by simpa using hx)
theorem CoL.get':∀{l m:List AV},CoL l m→∀{j:Nat} {b:AV},m[j]?=some b→∃a,l[j]?=some a∧Co a b
 |_,_,.nil,j,a,h=>by simp at h
 |_,_,.cons a b l m h t,0,x,hx=>by simp at hx;subst hx;exact⟨a,rfl,h⟩
 |_,_,.cons a b l m h t,j+1,x,hx=>by simpa using t.get' (j:=j) (by simpa using hx)
theorem B6.get:∀{l m:List (List AV)},B6 l m→∀{j:Nat} {a:List AV},l[j]?=some a→∃b,m[j]?=some b∧CoL a b
 |_,_,.nil,j,a,h=>by simp at h
 |_,_,.cons a b l m h t,0,x,hx=>by simp at hx;subst hx;exact⟨b,rfl,h⟩
 |_,_,.cons a b l m h t,j+1,x,hx=>by simpa using t.get (j:=j) (by simpa using hx)
section
variable{C:Ctx}{w:World}
mutual
theorem Co.rv:∀{a b:AV},Co a b→∀{v:Value} {f:List Nat},RV C w a v f→RV C w b v f
 |_,_,.refl _,_,_,h=>h
 |_,_,.nil τ k,v,f,h=>by cases h;exact .slNil τ k
 |_,_,.sl τ τ' k xs ys ht hl,v,f,h=>by
  cases h with
  |slNil=>cases hl;exact .slNil τ' k
  |shrE _ _ a cap hτ=>
   cases hl
   refine .shrE τ' k a cap ?_
   rcases ht with rfl|⟨_,rfl⟩
   ·exact hτ
   ·simp
  |own _ _ b off cap cs e f' hb hs hc hm hk hr=>
   obtain rfl:τ'=.own:=by rcases ht with h|⟨h,_⟩<;>cases h;rfl
   have hlen:=hl.length
   rw[hlen]at hc hr⊢
   exact .own k ys b off cap cs e f' hb hs hc hm (hl.lens hk) (B6.rvs hl hr)
  |shr _ _ _ b off cap cs e fz hτ hz hi hb hs hc hk hr=>
   have hlen:=hl.length
   rw[hlen]at hs hc hr⊢
   refine .shr τ' k ys b off cap cs e fz ?_ hz ?_ hb hs hc (hl.lens hk) (B6.rvs hl hr)
   ·rcases ht with rfl|⟨_,rfl⟩
    ·exact hτ
    ·simp
   ·intro e
    rcases ht with rfl|⟨_,h⟩
    ·exact hi e
    ·rw[h]at e;cases e
theorem CoL.rvs:∀{l m:List AV},CoL l m→∀{vs:List Value} {f:List Nat},RVs C w l vs f→RVs C w m vs f
 |_,_,.nil,_,_,h=>h
 |_,_,.cons a b l m h t,_,_,.cons _ v f _ vs g ha ht=>.cons b v f m vs g (h.rv ha) (t.rvs ht)
theorem B6.rvs:∀{l m:List (List AV)},B6 l m→∀{vs:List Value} {f:List Nat},RVs C w l.flatten vs f→RVs C w m.flatten vs f
 |_,_,.nil,_,_,h=>h
 |_,_,.cons a b l m h t,_,_,hr=>by
  rw[List.flatten_cons]at hr⊢
  obtain⟨m1,m2,f1,f2,rfl,rfl,h1,h2⟩:=RVs.split _ hr
  exact(h.rvs h1).append (t.rvs h2)
end
end
theorem Co.Nh:∀(p:List Stp) {a b:AV} {k:Nat} {xs:List (List AV)},Co a b→a.at p=some (.sl .own k xs)→∃ys,b.at p=some (.sl .own k ys)
 |p,_,_,k,xs,.refl a,ha=>⟨xs,ha⟩
 |[],_,_,k,xs,.nil τ' k',ha=>by simp[AV.at]at ha
 |s::r,_,_,k,xs,.nil τ' k',ha=>by simp[AV.at]at ha
 |[],_,_,k,xs,.sl τ τ' k' xs' ys ht hl,ha=>by
  simp only[AV.at,Option.some.injEq,AV.sl.injEq]at ha
  obtain⟨rfl,rfl,rfl⟩:=ha
  obtain rfl:τ'=.own:=by rcases ht with h|⟨h,_⟩<;>cases h;rfl
  exact⟨ys,rfl⟩
 |s::r,_,_,k,xs,.sl τ τ' k' xs' ys ht hl,ha=>by
  cases τ with
  |own=>
   obtain rfl:τ'=.own:=by rcases ht with h|⟨h,_⟩<;>cases h;rfl
   simp only[AV.at]at ha⊢
   split at ha
   case isFalse=>cases ha
   rename_i hk
   rw[if_pos hk]
   rw[Option.bind_eq_some_iff]at ha
   obtain⟨c,hc,ha⟩:=ha
   rw[Option.bind_eq_some_iff]at hc
   obtain⟨l,hl1,hc⟩:=hc
   obtain⟨m,hm,hlm⟩:=hl.get hl1
   obtain⟨d,hd,hcd⟩:=hlm.get hc
   obtain⟨zs,hz⟩:=Co.Nh r hcd ha
   exact⟨zs,by rw[hm,Option.bind_some,hd,Option.bind_some,hz]⟩
  |_=>simp[AV.at]at ha
inductive CoS:SV→SV→Prop
 |one (a b:AV) (h:Co a b):CoS (.one a) (.one b)
 |agg (l m:List AV) (h:CoL l m):CoS (.agg l) (.agg m)
inductive DA:List SV→List SV→Prop
 |nil:DA [] []
 |cons (a b:SV) (l m:List SV) (h:CoS a b) (t:DA l m):DA (a::l) (b::m)
inductive CoT:TV→TV→Prop
 |refl (x:TV):CoT x x
 |tup (l m:List SV) (h:DA l m):CoT (.tup l) (.tup m)
 |val (g:Bool) (s s':SV) (h:CoS s s'):CoT (.val g s) (.val g s')
theorem CoS.cells{s s':SV}(h:CoS s s'):CoL s.cells s'.cells:=by
 cases h with
 |one a b h=>exact .cons a b [] [] h .nil
 |agg l m h=>exact h
theorem CoS.refl:∀s,CoS s s
 |.one a=>.one a a (.refl a)
 |.agg l=>.agg l l (CoL.refl l)
theorem CoS.vcells{s s':SV}(h:CoS s s')(v:Value):vcells s v=vcells s' v:=by
 cases h with
 |one=>rfl
 |agg=>exact GH _ _ _
theorem CoS.rsv{C:Ctx}{w:World}{s s':SV}(h:CoS s s'){v:Value}{f:List Nat}(hr:RSV C w s v f):RSV C w s' v f:=by
 cases h with
 |one a b h=>exact h.rv hr
 |agg l m h=>obtain⟨cs,e,hr⟩:=hr;exact⟨cs,e,h.rvs hr⟩
theorem DA.rsvs{C:Ctx}{w:World}:∀{l m:List SV},DA l m→∀{vs:List Value} {f:List Nat},D5 C w l vs f→D5 C w m vs f
 |_,_,.nil,_,_,h=>h
 |_,_,.cons a b l m h t,[],_,hr=>hr.elim
 |_,_,.cons a b l m h t,v::vs,_,hr=>by
  obtain⟨f1,f2,e,h1,h2⟩:=hr
  exact⟨f1,f2,e,h.rsv h1,t.rsvs h2⟩
theorem CoT.rtv{C:Ctx}{w:World}{x y:TV}(h:CoT x y){v:Value}{f:List Nat}(hr:RTV C w x v f):RTV C w y v f:=by
 cases h with
 |refl=>exact hr
 |tup l m h=>obtain⟨vs,e,hr⟩:=hr;exact⟨vs,e,h.rsvs hr⟩
 |val g s s' h=>exact⟨fun hg=>h.rsv (hr.1 hg),hr.2⟩
structure Cy(st st':St):Prop where
 sl:∀t,CoT (st.sl t) (st'.sl t)
 hp:∀o,(st.hp.get o=none∧st'.hp.get o=none)∨∃l m,st.hp.get o=some l∧st'.hp.get o=some m∧CoL l m
 nx:st'.hp.next=st.hp.next
 vs:st'.vs=st.vs
 hv:st'.hv=st.hv
theorem Cy.ver{st st':St}(h:Cy st st')(r:Root):st'.ver r=st.ver r:=by
 cases r with
 |slot t j=>simp[St.ver,h.vs]
 |obj o c=>simp[St.ver,h.hv]
theorem Cy.Nh{st st':St}(h:Cy st st'){p:Place}{k:Nat}{xs:List (List AV)}(ha:st.at p=some (.sl .own k xs)):∃ys,st'.at p=some (.sl .own k ys):=by
 unfold St.at at ha⊢
 rw[Option.bind_eq_some_iff]at ha
 obtain⟨a,ha,hp⟩:=ha
 have key:∃b,st'.root p.root=some b∧Co a b:=by
  cases hr:p.root with
  |slot t j=>
   rw[hr]at ha
   obtain⟨s,hs,hj⟩:=St.Dm ha
   have:=h.sl t
   rw[hs]at this
   generalize hx:st'.sl t=x at this
   cases this with
   |refl=>exact⟨a,by simp[St.root,hx,TV.cell,hj],.refl a⟩
   |val _ _ s' hss=>
    obtain⟨b,hb,hab⟩:=hss.cells.get hj
    exact⟨b,by simp[St.root,hx,TV.cell,hb],hab⟩
  |obj o c=>
   rw[hr]at ha
   obtain⟨l,hl,hc⟩:=St.Di ha
   rcases h.hp o with⟨h1,_⟩|⟨l',m,h1,h2,h3⟩
   ·rw[h1]at hl;cases hl
   ·rw[h1]at hl;cases hl
    obtain⟨b,hb,hab⟩:=h3.get hc
    exact⟨b,by simp[St.root,h2,hb],hab⟩
 obtain⟨b,hb,hab⟩:=key
 obtain⟨ys,hys⟩:=hab.Nh p.path hp
 exact⟨ys,by rw[hb,Option.bind_some,hys]⟩
theorem Cy.AX{st st':St}(h:Cy st st')(tm:Array Value)(w:World)(lam:Nat→Nat)(r:Root):AX st' tm w lam r=AX st tm w lam r:=by
 cases r with
 |obj o c=>rfl
 |slot t j=>
  have:=h.sl t
  simp only[VS.AX]
  generalize st.sl t=x at this
  generalize st'.sl t=y at this
  cases this with
  |refl=>rfl
  |tup=>rfl
  |val g s s' hss=>cases g<;>simp[hss.vcells]
theorem Co.NZ{a b:AV}(h:Co a b):b=a∨b.solid=true:=by
 cases h with
 |refl=>exact .inl rfl
 |nil=>exact .inr rfl
 |sl=>exact .inr rfl
theorem Cy.Zn{st st':St}(h:Cy st st'){E:Env}{lam:Nat→Nat}{z:Nat→Prop}{fp:Ky→List Nat}{hd:Hands}{tm:Array Value}{w:World}(R:Ax E lam z fp hd st tm w):Ax E lam z fp hd st' tm w:=by
 refine⟨?_,R.fps,R.z,R.frame,R.os,R.tape,R.output,R.size,R.tsz,by rw[h.nx];exact R.base,R.i0⟩
 intro κ
 rw[h.nx]
 have hk:=R.keys κ
 cases κ with
 |s t=>exact(h.sl t).rtv hk
 |h i=>exact hk
 |o o=>
  intro m hm
  rcases h.hp o with⟨_,h2⟩|⟨l,m',h1,h2,h3⟩
  ·rw[h2]at hm;cases hm
  ·rw[h2]at hm;cases hm
   obtain⟨q1,cs,e,f',q2,q3,q4⟩:=hk l h1
   exact⟨q1,cs,e,f',q2,h3.rvs q3,q4⟩
theorem Cy.le{st st':St}(h:Cy st st'):St.Le st st':=by
 rintro E tm w ⟨lam,z,fp,R,F⟩
 refine⟨lam,z,fp,h.Zn R,?_⟩
 ·intro t s hs j b u hj hu
  have hsl:=h.sl t
  rw[hs]at hsl
  generalize hx:st.sl t=x at hsl
  have key:∃s0,x=.val true s0∧CoS s0 s:=by
   cases hsl with
   |refl=>exact⟨s,rfl,CoS.refl s⟩
   |val _ s0 _ hss=>exact⟨s0,rfl,hss⟩
  obtain⟨s0,rfl,hss⟩:=key
  obtain⟨a,ha,hab⟩:=hss.cells.get' hj
  rcases hab.NZ with rfl|hsol
  ·have hF:=F t s0 hx j b u ha (by rw[hss.vcells];exact hu)
   cases b with
   |ref p ver k lo n=>
    obtain⟨h1,h2⟩:=hF
    refine⟨by rw[h.ver];exact h1,fun hv=>?_⟩
    rw[h.ver]at hv
    obtain⟨xs,v0,q1,q2,q3⟩:=h2 hv
    obtain⟨ys,hys⟩:=h.Nh q1
    exact⟨ys,v0,hys,by simp only[conc,h.AX];exact q2,q3⟩
   |adr p ver k i c=>
    obtain⟨h1,h2⟩:=hF
    refine⟨by rw[h.ver];exact h1,fun hv=>?_⟩
    rw[h.ver]at hv
    obtain⟨xs,b,off,len,cap,q1,q2,q3⟩:=h2 hv
    obtain⟨ys,hys⟩:=h.Nh q1
    exact⟨ys,b,off,len,cap,hys,by simp only[conc,h.AX];exact q2,q3⟩
   |_=>exact trivial
  ·exact HQ hsol
end Go.VS
namespace Go.VS
def rbase:Nat:=1000
inductive BT
 |int (k:IntKind)
 |bool
 |str
 |unit
 |sl (e:BT)
 |pair (a b:BT)
 deriving DecidableEq
inductive TT
 |leaf
 |node (τ:Tag) (e:TT)
 |pair (a b:TT)
 deriving DecidableEq
@[reducible] def BT.D:BT→Type
 |.int _=>Int
 |.bool=>Bool
 |.str=>List UInt8
 |.unit=>Unit
 |.sl e=>List e.D
 |.pair a b=>a.D×b.D
def BT.size:BT→Nat
 |.unit=>0
 |.pair a b=>a.size+b.size
 |_=>1
def BT.dflt:(t:BT)→t.D
 |.int _=>(0:Int)
 |.bool=>false
 |.str=>[]
 |.unit=>()
 |.sl _=>[]
 |.pair a b=>(a.dflt,b.dflt)
def TT.fst:TT→TT
 |.pair a _=>a
 |_=>.leaf
def TT.snd:TT→TT
 |.pair _ b=>b
 |_=>.leaf
def TT.tag:TT→Tag
 |.node τ _=>τ
 |_=>.imm
def TT.elt:TT→TT
 |.node _ e=>e
 |_=>.leaf
def BT.enc:(t:BT)→TT→t.D→List AV
 |.int k,_,n=>[.lit (.int k n)]
 |.bool,_,b=>[.lit (.bool b)]
 |.str,_,s=>[.lit (.string ⟨s.toArray⟩)]
 |.unit,_,_=>[]
 |.sl e,tt,l=>[.sl tt.tag e.size (l.map (e.enc tt.elt))]
 |.pair a b,tt,x=>a.enc tt.fst x.1++b.enc tt.snd x.2
inductive TC
 |int (k:IntKind) (n:Int)
 |bool (b:Bool)
 |str (s:List UInt8)
 |nil
 |lit (v:Value)
 |sl (τ:Tag) (tt:TT) (e:BT) (l:List e.D)
 |box (b c:Nat)
 |boxd (b c n i:Nat)
 |ref (p:Place) (tt:TT) (e:BT) (w:Option (Nat×Nat))
 |adr (p:Place) (tt:TT) (e:BT) (i c:Nat)
 |iadr (tt:TT) (e:BT) (l:List e.D) (i c:Nat)
 |iadrd (tt:TT) (e:BT) (l:List e.D) (i c n j:Nat)
 |dead
 deriving Inhabited
def BT.ex:(t:BT)→TT→t.D→List TC
 |.int k,_,n=>[.int k n]
 |.bool,_,b=>[.bool b]
 |.str,_,s=>[.str s]
 |.unit,_,_=>[]
 |.sl e,tt,l=>[.sl tt.tag tt.elt e l]
 |.pair a b,tt,x=>a.ex tt.fst x.1++b.ex tt.snd x.2
def Tag.le(a b:Tag):Bool:=
 match a,b with
 |.own,.own=>true
 |.imm,.imm=>true
 |.imm,.brw=>true
 |.brw,.brw=>true
 |_,_=>false
def TT.co:TT→TT→Bool
 |.leaf,.leaf=>true
 |.node τ a,.node τ' b=>τ.le τ'&&a.co b
 |.pair a b,.pair c d=>a.co c&&b.co d
 |_,_=>false
def BT.im:(t:BT)→TT→List TC→Option (t.D×List TC)
 |.int k,_,.int k' n::r=>if k=k' then some (n,r)else none
 |.bool,_,.bool b::r=>some (b,r)
 |.str,_,.str s::r=>some (s,r)
 |.unit,_,r=>some ((),r)
 |.sl e,tt,.sl τ' tt' e' l::r=>if h:e'=e then(if τ'.le tt.tag&&tt'.co tt.elt then some (h▸l,r)else none)else none
 |.sl _,_,.nil::r=>some ([],r)
 |.pair a b,tt,r=>match a.im tt.fst r with
  |some (x,r1)=>match b.im tt.snd r1 with
   |some (y,r2)=>some ((x,y),r2)
   |none=>none
  |none=>none
 |_,_,_=>none
def BT.K4(t:BT)(tt:TT)(cs:List TC):Option t.D:=match t.im tt cs with
 |some (x,[])=>some x
 |_=>none
def Root.mu(μ:Nat→Nat):Root→Root
 |.slot t j=>.slot t j
 |.obj b c=>.obj (μ b) c
def Place.mu(μ:Nat→Nat)(p:Place):Place:=⟨p.root.mu μ,p.path⟩
def TC.atS:TC→List Stp→Option TC
 |c,[]=>some c
 |.sl .own tt e l,s::r=>if s.k=e.size then((l[s.i]?).bind fun x=>(e.ex tt x)[s.c]?).bind (·.atS r)else none
 |_,_=>none
section
variable(μ:Nat→Nat)(ver:Root→Nat)
def TC.av(ln:Place→Option Nat):TC→AV→Prop
 |.int k n,a=>a=.lit (.int k n)
 |.bool b,a=>a=.lit (.bool b)
 |.str s,a=>a=.lit (.string ⟨s.toArray⟩)
 |.nil,a=>a=.lit (.slice none 0 0)
 |.lit v,a=>a=.lit v
 |.sl τ tt e l,a=>a=.sl τ e.size (l.map (e.enc tt))
 |.box b c,a=>a=.ptr (μ b) c
 |.boxd b c _ i,a=>a=.ptr (μ b) (c+i)
 |.ref p _ e (some (lo,n)),a=>a=.ref (p.mu μ) (ver (p.mu μ).root) e.size lo n
 |.ref p _ e none,a=>∃m,a=.ref (p.mu μ) (ver (p.mu μ).root) e.size 0 m∧∀n,ln p=some n→m=n
 |.adr p _ e i c,a=>a=.adr (p.mu μ) (ver (p.mu μ).root) e.size i c
 |.iadr tt e l i c,a=>a=.iadr e.size (l.map (e.enc tt)) i c
 |.iadrd tt e l i c _ j,a=>a=.iadr e.size (l.map (e.enc tt)) i (c+j)
 |.dead,_=>True
def avs(ln:Place→Option Nat):List TC→List AV→Prop
 |[],[]=>True
 |c::cs,a::l=>c.av μ ver ln a∧avs ln cs l
 |_,_=>False
end
section
variable{μ:Nat→Nat}{ver:Root→Nat}{ln:Place→Option Nat}
theorem IJ{p:Place}{tt:TT}{e:BT}{a:AV}(h:(TC.ref p tt e none).av μ ver ln a){n:Nat}(hn:ln p=some n):a=.ref (p.mu μ) (ver (p.mu μ).root) e.size 0 n:=by
 obtain⟨m,rfl,hm⟩:=h
 rw[hm n hn]
theorem Bq:∀{cs:List TC} {l:List AV},avs μ ver ln cs l→l.length=cs.length
 |[],[],_=>rfl
 |c::cs,a::l,h=>by simp[Bq h.2]
 |[],_::_,h=>h.elim
 |_::_,[],h=>h.elim
theorem FM:∀{cs:List TC} {l:List AV},avs μ ver ln cs l→∀{j:Nat} {c:TC},cs[j]?=some c→∃a,l[j]?=some a∧c.av μ ver ln a
 |[],[],_,j,c,h=>by simp at h
 |c::cs,a::l,h,0,x,hx=>by simp at hx;subst hx;exact⟨a,rfl,h.1⟩
 |c::cs,a::l,h,j+1,x,hx=>by simpa using FM h.2 (j:=j) (by simpa using hx)
 |[],_::_,h,_,_,_=>h.elim
 |_::_,[],h,_,_,_=>h.elim
theorem DH:∀{cs:List TC} {l:List AV},avs μ ver ln cs l→∀{ds:List TC} {m:List AV},avs μ ver ln ds m→avs μ ver ln (cs++ds) (l++m)
 |[],[],_,_,_,h=>h
 |c::cs,a::l,h,_,_,k=>⟨h.1,DH h.2 k⟩
 |[],_::_,h,_,_,_=>h.elim
 |_::_,[],h,_,_,_=>h.elim
theorem OZ:∀{cs ds:List TC} {l:List AV},avs μ ver ln (cs++ds) l→∃l1 l2,l=l1++l2∧avs μ ver ln cs l1∧avs μ ver ln ds l2
 |[],ds,l,h=>⟨[],l,rfl,trivial,h⟩
 |c::cs,ds,[],h=>h.elim
 |c::cs,ds,a::l,h=>by
  obtain⟨l1,l2,rfl,h1,h2⟩:=OZ h.2
  exact⟨a::l1,l2,rfl,⟨h.1,h1⟩,h2⟩
theorem Gb{cs:List TC}{l:List AV}(h:avs μ ver ln cs l)(n:Nat):avs μ ver ln (cs.take n) (l.take n):=by
 induction cs generalizing l n with
 |nil=>cases l with
  |nil=>simp[avs]
  |cons=>exact h.elim
 |cons c cs ih=>cases l with
  |nil=>exact h.elim
  |cons a l=>cases n with
   |zero=>simp[avs]
   |succ n=>exact⟨h.1,ih h.2 n⟩
theorem Ga{cs:List TC}{l:List AV}(h:avs μ ver ln cs l)(n:Nat):avs μ ver ln (cs.drop n) (l.drop n):=by
 induction cs generalizing l n with
 |nil=>cases l with
  |nil=>simp[avs]
  |cons=>exact h.elim
 |cons c cs ih=>cases l with
  |nil=>exact h.elim
  |cons a l=>cases n with
   |zero=>exact h
   |succ n=>exact ih h.2 n
theorem MW{cs:List TC}{l:List AV}(h:avs μ ver ln cs l)(j:Nat){c:TC}{a:AV}(hc:c.av μ ver ln a):avs μ ver ln (cs.set j c) (l.set j a):=by
 induction cs generalizing l j with
 |nil=>cases l with
  |nil=>simp[avs]
  |cons=>exact h.elim
 |cons d cs ih=>cases l with
  |nil=>exact h.elim
  |cons b l=>cases j with
   |zero=>exact⟨hc,h.2⟩
   |succ n=>exact⟨h.1,ih h.2 n⟩
theorem Cs:∀(t:BT) (tt:TT) (x:t.D),(t.enc tt x).length=t.size
 |.int _,_,_=>rfl
 |.bool,_,_=>rfl
 |.str,_,_=>rfl
 |.unit,_,_=>rfl
 |.sl _,_,_=>rfl
 |.pair a b,tt,x=>by simp[BT.enc,BT.size,Cs a,Cs b]
theorem Ce:∀(t:BT) (tt:TT) (x:t.D),(t.ex tt x).length=t.size
 |.int _,_,_=>rfl
 |.bool,_,_=>rfl
 |.str,_,_=>rfl
 |.unit,_,_=>rfl
 |.sl _,_,_=>rfl
 |.pair a b,tt,x=>by simp[BT.ex,BT.size,Ce a,Ce b]
theorem Dz:∀(t:BT) (tt:TT) (x:t.D),avs μ ver ln (t.ex tt x) (t.enc tt x)
 |.int _,_,_=>⟨rfl,trivial⟩
 |.bool,_,_=>⟨rfl,trivial⟩
 |.str,_,_=>⟨rfl,trivial⟩
 |.unit,_,_=>trivial
 |.sl _,_,_=>⟨rfl,trivial⟩
 |.pair a b,tt,x=>DH (Dz a tt.fst x.1) (Dz b tt.snd x.2)
theorem TT.Yj{a b:TT}(h:a.co b=true):a.fst.co b.fst=true:=by
 cases a<;>cases b<;>simp_all [TT.co,TT.fst]
theorem TT.Yk{a b:TT}(h:a.co b=true):a.snd.co b.snd=true:=by
 cases a<;>cases b<;>simp_all [TT.co,TT.snd]
theorem TT.Yi{a b:TT}(h:a.co b=true):a.elt.co b.elt=true:=by
 cases a<;>cases b<;>simp_all [TT.co,TT.elt]
theorem TT.Yl{a b:TT}(h:a.co b=true):a.tag.le b.tag=true:=by
 cases a<;>cases b<;>simp_all [TT.co,TT.tag]
 all_goals rfl
theorem Tag.TQ{a b:Tag}(h:a.le b=true):a=b∨(a=.imm∧b=.brw):=by
 cases a<;>cases b<;>simp_all [Tag.le]
theorem CoL.append:∀{l m:List AV},CoL l m→∀{l' m':List AV},CoL l' m'→CoL (l++l') (m++m')
 |_,_,.nil,_,_,h=>h
 |_,_,.cons a b l m h t,_,_,k=>.cons a b _ _ h (t.append k)
theorem B6.map{α:Type}{f g:α→List AV}(h:∀x,CoL (f x) (g x)):∀l:List α,B6 (l.map f) (l.map g)
 |[]=>.nil
 |x::l=>.cons _ _ _ _ (h x) (B6.map h l)
theorem Nn:∀(t:BT) {tt tt':TT} (_:tt.co tt'=true) (x:t.D),CoL (t.enc tt x) (t.enc tt' x)
 |.int _,_,_,_,_=>CoL.refl _
 |.bool,_,_,_,_=>CoL.refl _
 |.str,_,_,_,_=>CoL.refl _
 |.unit,_,_,_,_=>.nil
 |.sl e,tt,tt',h,l=>.cons _ _ _ _ (.sl _ _ _ _ _ (Tag.TQ (TT.Yl h)) (B6.map (fun x=>Nn e (TT.Yi h) x) l)) .nil
 |.pair a b,tt,tt',h,x=>(Nn a (TT.Yj h) x.1).append (Nn b (TT.Yk h) x.2)
theorem V6:∀(t:BT) (tt:TT) {cs:List TC} {x:t.D} {r:List TC},t.im tt cs=some (x,r)→∀{l:List AV},avs μ ver ln cs l→
  ∃l1 l2,l=l1++l2∧CoL l1 (t.enc tt x)∧avs μ ver ln r l2
 |.int k,_,.int k' n::r,x,_,h,a::l,ha=>by
  simp only[BT.im]at h
  split at h
  ·cases h
   rename_i hk
   subst hk
   exact⟨[a],l,rfl,by rw[ha.1];exact CoL.refl _,ha.2⟩
  ·cases h
 |.bool,_,.bool b::r,x,_,h,a::l,ha=>by
  simp only[BT.im,Option.some.injEq,Prod.mk.injEq]at h
  obtain⟨rfl,rfl⟩:=h
  exact⟨[a],l,rfl,by rw[ha.1];exact CoL.refl _,ha.2⟩
 |.str,_,.str b::r,x,_,h,a::l,ha=>by
  simp only[BT.im,Option.some.injEq,Prod.mk.injEq]at h
  obtain⟨rfl,rfl⟩:=h
  exact⟨[a],l,rfl,by rw[ha.1];exact CoL.refl _,ha.2⟩
 |.unit,_,cs,x,r,h,l,ha=>by
  have h:some ((),cs)=some (x,r):=by cases cs<;>exact h
  simp only[Option.some.injEq,Prod.mk.injEq]at h
  obtain⟨_,rfl⟩:=h
  exact⟨[],l,rfl,.nil,ha⟩
 |.sl e,tt,.sl τ' tt' e' l0::r0,x,r,h,a::l,ha=>by
  simp only[BT.im]at h
  split at h
  case isFalse=>cases h
  rename_i he
  subst he
  split at h
  case isFalse=>cases h
  rename_i hc
  cases h
  simp only[Bool.and_eq_true]at hc
  refine⟨[a],l,rfl,?_,ha.2⟩
  rw[ha.1]
  exact .cons _ _ _ _ (.sl _ _ _ _ _ (Tag.TQ hc.1) (B6.map (fun x=>Nn _ hc.2 x) _)) .nil
 |.sl e,tt,.nil::r0,x,r,h,a::l,ha=>by
  simp only[BT.im,Option.some.injEq,Prod.mk.injEq]at h
  obtain⟨rfl,rfl⟩:=h
  exact⟨[a],l,rfl,by rw[ha.1];exact .cons _ _ _ _ (.nil _ _) .nil,ha.2⟩
 |.pair a b,tt,cs,x,r,h,l,ha=>by
  have h:(match a.im tt.fst cs with
   |some (x,r1)=>match b.im tt.snd r1 with
    |some (y,r2)=>some ((x,y),r2)
    |none=>none
   |none=>none)=some (x,r):=by cases cs<;>exact h
  split at h
  case h_2=>cases h
  rename_i x1 r1 h1
  split at h
  case h_2=>cases h
  rename_i y r2 h2
  cases h
  obtain⟨l1,l2,rfl,c1,c2⟩:=V6 a _ h1 ha
  obtain⟨m1,m2,rfl,d1,d2⟩:=V6 b _ h2 c2
  exact⟨l1++m1,m2,by simp,c1.append d1,d2⟩
theorem Eb{t:BT}{tt:TT}{cs:List TC}{x:t.D}(h:t.K4 tt cs=some x){l:List AV}(ha:avs μ ver ln cs l):CoL l (t.enc tt x):=by
 unfold BT.K4 at h
 split at h
 case h_2=>cases h
 rename_i x' h1
 cases h
 obtain⟨l1,l2,rfl,c1,c2⟩:=V6 t tt h1 ha
 cases l2 with
 |nil=>simpa using c1
 |cons=>exact c2.elim
end
end Go.VS
