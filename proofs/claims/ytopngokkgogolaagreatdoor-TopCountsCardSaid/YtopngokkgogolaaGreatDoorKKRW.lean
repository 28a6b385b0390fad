/- Lists as they lie in memory. -/
import Derived.Test.YtopngokkgogolaaGreatDoorFwD
set_option linter.unusedVariables false
set_option linter.unusedSimpArgs false
theorem Go.VS.Sw{C:Go.VS.Ctx}{w:Go.World}{τ:Go.VS.Tag}{k:Nat}{xs:List (List Go.VS.AV)}{v:Go.Value}{f:List Nat}(h:Go.VS.RV C w (.sl τ k xs) v f):
  (xs=[]∧∃a c,v=.slice a 0 c)∨∃b off c,v=.slice (some ⟨b,off,none⟩) xs.length c∧b<w.heap.size∧∀j a,xs.flatten[j]?=some a→∃u g,w.cell? ⟨b,off+j,none⟩=some u∧Go.VS.RV C w a u g:=by
 have key:∀{b off:Nat} {cs:Array Go.Value} {e:Go.TypeId} {fz:Nat×Nat} {f:List Nat},w.heap[b]?=some (.cells cs e fz)→Go.VS.RVs C w xs.flatten ((cs.toList.drop off).take (xs.length*k)) f→∀j a,xs.flatten[j]?=some a→∃u g,w.cell? ⟨b,off+j,none⟩=some u∧Go.VS.RV C w a u g:=by
  intro b off cs e fz f hb hr j a hj;obtain⟨m1,u,m2,f1,fa,f2,hm,hl,_,_,hu,_⟩:=hr.nth hj
  have hw:((cs.toList.drop off).take (xs.length*k))[j]?=some u:=by rw[hm,←hl];simp
  exact⟨u,fa,(Go.VS.Am hb _).trans (Go.VS.FW cs off _ j u hw).1,hu⟩
 have hlt:∀{b:Nat} {o:Go.Obj},w.heap[b]?=some o→b<w.heap.size:=fun h=>(Array.getElem?_eq_some_iff.1 h).1
 generalize ha:Go.VS.AV.sl τ k xs=a at h
 cases h with
 |slNil τ k'=>
  cases ha;exact .inl ⟨rfl,none,0,rfl⟩
 |shrE τ k' a cap ht=>cases ha;exact .inl ⟨rfl,some a,cap,rfl⟩
 |shr τ k' xs' b off cap cs e fz ht hz hi hb hs hc hk hr=>cases ha;exact .inr ⟨b,off,cap,rfl,hlt hb,key hb hr⟩
 |own k' xs' b off cap cs e f hb hs hc hm hk hr=>cases ha;exact .inr ⟨b,off,cap,rfl,hlt hb,key hb hr⟩
 |_=>cases ha
