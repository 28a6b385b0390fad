/- AutomatonClosed, walked: as a contract. -/
import Derived.Test.YtopngokkgogolaaKKCL
set_option linter.unusedVariables false
set_option linter.unusedSimpArgs false
namespace Go.Proofs.Try
open Go.RowKit Go.VS Go
theorem ZN{vs:Array Value}{a b c d e f:Value}(h:vs.size=6)(h0:vs.getD 0 undef=a)(h1:vs.getD 1 undef=b)(h2:vs.getD 2 undef=c)(h3:vs.getD 3 undef=d)(h4:vs.getD 4 undef=e)(h5:vs.getD 5 undef=f):vs=#[a,b,c,d,e,f]:=by
 subst h0 h1 h2 h3 h4 h5
 apply Array.ext
 ·simpa using h
 ·intro i hi1 hi2
  have hi:i=0∨i=1∨i=2∨i=3∨i=4∨i=5:=by simp at hi2;omega
  rcases hi with rfl|rfl|rfl|rfl|rfl|rfl<;>simp[hi1]
theorem N8{P:Pg}{W:World}{ss:List SV}{vs:Array Value}(hl:vs.size=ss.length)(hs:∀s∈ss,s.cells.all AV.solid=true)(h:∀C:Ctx,(∀b,b<W.heap.size→C.zb b∧C.zt b)→∀t s,ss[t]?=some s→RSV C W s (vs.getD t undef) []):Reads P W ss vs:=
 ⟨hl,fun t s ht=>⟨hs s (List.mem_of_getElem? ht),fun C _ hC=>h C hC t s ht⟩⟩
theorem Ma(C:Ctx)(W:World)(v:Value)(h:v.oneCell'=true):RV C W (.lit v) v []:=.lit _ h
theorem Uw(hM:LM (Pg.of prog))(hC:JH (Pg.of prog))(hMo:JJ (Pg.of prog))(hI:PO (Pg.of prog))(hA:JL (Pg.of prog)):HE (Pg.of prog):=by
 rintro⟨raw,n,fr,more,st,en⟩
 refine Fn.Po (S:=AZ) rfl rfl (raw,(n,(fr,(more,(st,en))))) true () rfl fun f fn hf hfn=>?_
 have hfi:f=3:=XW (by kernel_rfl) hf hfn
 subst hfi
 have hfe:=Option.some.inj (hf.symm.trans func3)
 subst hfe
 refine⟨by kernel_rfl,by kernel_rfl,fun μ sv w vs hsv hw hargs=>?_⟩
 have hsv:svs μ dv dl [.one (.sl .brw .leaf (.int .i64) raw),.one (.int .i64 n),.one (.sl .brw .leaf (.int .i64) fr),.one (.int .i64 more),.one (.bool st),.one (.bool en)] sv:=hsv
 match sv,hsv with
 |[s0,s1,s2,s3,s4,s5],⟨⟨a0,e0,r0⟩,⟨a1,e1,r1⟩,⟨a2,e2,r2⟩,⟨a3,e3,r3⟩,⟨a4,e4,r4⟩,⟨a5,e5,r5⟩,_⟩=>
  have r0:a0=iAV raw:=r0
  have r1:a1=.lit (.int .i64 n):=r1
  have r2:a2=iAV fr:=r2
  have r3:a3=.lit (.int .i64 more):=r3
  have r4:a4=.lit (.bool st):=r4
  have r5:a5=.lit (.bool en):=r5
  subst e0 r0 e1 r1 e2 r2 e3 r3 e4 r4 e5 r5
  obtain⟨hsize,hat⟩:=hargs
  obtain⟨C0,f0,_,h0⟩:=hat 0 _ rfl
  obtain⟨C1,f1,_,h1⟩:=hat 1 _ rfl
  obtain⟨C2,f2,_,h2⟩:=hat 2 _ rfl
  obtain⟨C3,f3,_,h3⟩:=hat 3 _ rfl
  obtain⟨C4,f4,_,h4⟩:=hat 4 _ rfl
  obtain⟨C5,f5,_,h5⟩:=hat 5 _ rfl
  have h0:RV C0 w (iAV raw) (vs.getD 0 undef) f0:=h0
  have h2:RV C2 w (iAV fr) (vs.getD 2 undef) f2:=h2
  obtain⟨pr,cr,hv0,_⟩:=NH h0
  obtain⟨pf,cf,hv2,hfa⟩:=NH h2
  have hv1:vs.getD 1 undef=.int .i64 n:=RV.B7 (show RV C1 w (.lit (.int .i64 n)) (vs.getD 1 undef) f1 from h1)
  have hv3:vs.getD 3 undef=.int .i64 more:=RV.B7 (show RV C3 w (.lit (.int .i64 more)) (vs.getD 3 undef) f3 from h3)
  have hv4:vs.getD 4 undef=.bool st:=RV.B7 (show RV C4 w (.lit (.bool st)) (vs.getD 4 undef) f4 from h4)
  have hv5:vs.getD 5 undef=.bool en:=RV.B7 (show RV C5 w (.lit (.bool en)) (vs.getD 5 undef) f5 from h5)
  have hrd0:Rd w (vs.getD 0 undef) raw:=fun C hC=>RV.reads (fun b hb=>hC b hb) (fun _ _=>rfl) h0 (TL raw)
  rw[hv0]at hrd0
  have hvs:=ZN hsize hv0 hv1 hv2 hv3 hv4 hv5
  clear hat h0 h1 h2 h3 h4 h5 hv0 hv1 hv2 hv3 hv4 hv5
  subst hvs
  have hawk:∀W,Below w.heap.size w W→Calls prog 4 #[] W fun e w'=>e=.returned (.bool true)∧Below W.heap.size W w':=fun W hB=>by
   refine(Fn.Sx (fun _ h=>h) (S:=Fg) rfl rfl hA func4 (by kernel_rfl) (hw.of hB) (μ:=μ) (show svs μ dv dl [] []from trivial) (N8 rfl (fun _ h=>nomatch h) fun C _ t s ht=>nomatch ht)).mono ?_
   rintro e w' ⟨r,d,hr,rfl,hB⟩
   have hr:r=true:=hr
   subst hr
   exact⟨rfl,hB⟩
  by_cases hfr:fr.length≤8
  ·have hva:Valid (Ha raw n 7):=Rn raw n (by decide) (by decide)
   generalize ha:Ha raw n 7=a at hva
   have hlo:=hva.lo
   have hhi:=hva.hi
   refine P0 fr raw.length n more st en pr pf cr cf w a hfr hva hfa ?_ ?_ ?_ ?_ hawk
   ·refine(Fn.Xn (fun _ h=>h) (ps:=FL.ps) rfl (hM (raw,n)) func5 (by kernel_rfl) hw (μ:=μ) (show svs μ dv dl [.one (.sl .brw .leaf (.int .i64) raw),.one (.int .i64 n)] [.one (iAV raw),.one (.lit (.int .i64 n))]from⟨⟨_,rfl,rfl⟩,⟨_,rfl,rfl⟩,trivial⟩) (N8 rfl (fun s hs=>?_) fun C hC t s ht=>?_)).mono ?_
    ·simp only[List.mem_cons,List.not_mem_nil,or_false]at hs
     rcases hs with rfl|rfl<;>rfl
    ·match t,ht with
     |0,ht=>cases ht;exact hrd0 C hC
     |1,ht=>cases ht;exact Ma C w _ rfl
    ·rintro e w' ⟨hB,l,c,d,hK,v,C,g,rfl,hrv,_,_⟩
     have hK:(l,c)=a:=ha▸hK
     subst hK
     exact⟨hB,v,rfl,fun C' hC'=>MF rfl hrv (fun _ _ _=>rfl) fun b hb=>(hC' b hb).1⟩
   ·intro W v vl l st en hB hS hR hin hll
    have hp:l.length≤140737488351232:=by omega
    refine(Fn.Xm (fun _ h=>h) (ps:=CR.ps) rfl (hC (a,(l,(st,en))) hp) func7 (by kernel_rfl) (hw.of hB) (μ:=μ) (show svs μ dv dl [.agg [.sl .brw .leaf Ck a.1,.int .i64 a.2],.one (.sl .brw .leaf (.int .i64) l),.one (.bool st),.one (.bool en)] [.agg [sAV a.1,.lit (.int .i64 a.2)],.one (iAV l),.one (.lit (.bool st)),.one (.lit (.bool en))]from⟨⟨_,rfl,rfl,rfl,trivial⟩,⟨_,rfl,rfl⟩,⟨_,rfl,rfl⟩,⟨_,rfl,rfl⟩,trivial⟩) (N8 rfl (fun s hs=>?_) fun C hC t s ht=>?_)).mono ?_
    ·simp only[List.mem_cons,List.not_mem_nil,or_false]at hs
     rcases hs with rfl|rfl|rfl|rfl<;>rfl
    ·match t,ht with
     |0,ht=>
      cases ht
      exact⟨#[v,.int .i64 a.2],rfl,.cons _ _ [] _ _ [] (hS C hC) (.cons _ _ [] _ _ [] (Ma C W _ rfl) .nil)⟩
     |1,ht=>cases ht;exact hR C hC
     |2,ht=>cases ht;exact Ma C W _ rfl
     |3,ht=>cases ht;exact Ma C W _ rfl
    ·rintro e w' ⟨hB2,d,c,x,hK,v',C,g,rfl,hrv,_,hg⟩
     have hK:Kp a l st en (d,c):=hK
     obtain⟨h0,hcl⟩:=(hK.2 hva).2 hin
     have h0:c=0:=h0
     subst h0
     refine⟨v',d,hcl,rfl,hB2,fun W' hW' hs C' hC'=>MF rfl hrv (fun b hb hlt=>hW' b (hg b hb).1 hlt) fun b hb=>(hC' b (Nat.lt_of_lt_of_le hb hs)).1⟩
   ·intro W x hB
    refine(Fn.Sx (fun _ h=>h) (S:=A9) rfl rfl (hMo (x,(a.1.length:Int)) (by dsimp only;omega) (by dsimp only;omega)) func6 (by kernel_rfl) (hw.of hB) (μ:=μ) (show svs μ dv dl [.one (.int .i64 x),.one (.int .i64 (a.1.length:Int))] [.one (.lit (.int .i64 x)),.one (.lit (.int .i64 (a.1.length:Int)))]from⟨⟨_,rfl,rfl⟩,⟨_,rfl,rfl⟩,trivial⟩) (N8 rfl (fun s hs=>?_) fun C hC t s ht=>?_)).mono ?_
    ·simp only[List.mem_cons,List.not_mem_nil,or_false]at hs
     rcases hs with rfl|rfl<;>rfl
    ·match t,ht with
     |0,ht=>cases ht;exact Ma C W _ rfl
     |1,ht=>cases ht;exact Ma C W _ rfl
    ·rintro e w' ⟨r,d,hr,rfl,hB2⟩
     have hr:r=CU x (a.1.length:Int):=hr
     subst hr
     exact⟨rfl,hB2⟩
   ·intro W v1 v2 l hB hR1 hR2 hll
    have hp:l.length≤140737488351232:=by omega
    refine(Fn.Sx (fun _ h=>h) (S:=HD) rfl rfl (hI (l,l) hp) func8 (by kernel_rfl) (hw.of hB) (μ:=μ) (show svs μ dv dl [.one (.sl .brw .leaf (.int .i64) l),.one (.sl .brw .leaf (.int .i64) l)] [.one (iAV l),.one (iAV l)]from⟨⟨_,rfl,rfl⟩,⟨_,rfl,rfl⟩,trivial⟩) (N8 rfl (fun s hs=>?_) fun C hC t s ht=>?_)).mono ?_
    ·simp only[List.mem_cons,List.not_mem_nil,or_false]at hs
     rcases hs with rfl|rfl<;>rfl
    ·match t,ht with
     |0,ht=>cases ht;exact hR1 C hC
     |1,ht=>cases ht;exact hR2 C hC
    ·rintro e w' ⟨r,d,hr,rfl,hB2⟩
     have hr:r=true:=hr.2 rfl
     subst hr
     exact⟨rfl,hB2⟩
  ·exact QW fr.length raw.length n more st en pr pf cr cf w (by omega) (hawk w (Below.refl _ w))
end Go.Proofs.Try
