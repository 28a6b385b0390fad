/- script.fromPairs as a contract. -/
import Derived.Test.YtopngokkgogolaaGreatDoorKKFP
import Derived.Test.YtopngokkgogolaaGreatDoorFwD
set_option linter.unusedVariables false
set_option linter.unusedSimpArgs false
namespace Go.Proofs.Tryz
open Go.Shelf Go.RowKit Go.VS Go Go.Sort
theorem Aol{vs:Array Value}{a b:Value}(h:vs.size=2)(h0:vs.getD 0 undef=a)(h1:vs.getD 1 undef=b):vs=#[a,b]:=by
 apply Array.ext
 ·simpa using h
 ·intro i hi1 hi2
  have hi:i=0∨i=1:=by simp at hi2;omega
  rcases hi with rfl|rfl
  ·have:vs.getD 0 undef=vs[0]:=by simp[hi1]
   rw[←this,h0];rfl
  ·have:vs.getD 1 undef=vs[1]:=by simp[hi1]
   rw[←this,h1];rfl
theorem Aom{vs:Array Value}{a b c:Value}(h:vs.size=3)(h0:vs.getD 0 undef=a)(h1:vs.getD 1 undef=b)(h2:vs.getD 2 undef=c):vs=#[a,b,c]:=by
 apply Array.ext
 ·simpa using h
 ·intro i hi1 hi2
  have hi:i=0∨i=1∨i=2:=by simp at hi2;omega
  rcases hi with rfl|rfl|rfl
  ·have:vs.getD 0 undef=vs[0]:=by simp[hi1]
   rw[←this,h0];rfl
  ·have:vs.getD 1 undef=vs[1]:=by simp[hi1]
   rw[←this,h1];rfl
  ·have:vs.getD 2 undef=vs[2]:=by simp[hi1]
   rw[←this,h2];rfl
theorem Afu{t:BT}(ht:t.flat=true){w w':World}{e:TypeId}{v:Value}{d:List t.D}{K:List t.D→Unit→Prop}(hown:w'.ownsRow w.heap.size e t.size v d.length (d.map t.fl).flatten)(hB:Below w.heap.size w w')(hK:K d ()):
  Below w.heap.size w w'∧∃(l:(BT.sl t).D) (d':Unit),K l d'∧∃(ns:Value) (f:List Nat) (z:Nat→Prop),(Ending.returned v=.returned ns)∧RVs (hctx (Pg.of prog).toProgram z) w' ((BT.sl t).enc (.node .own .leaf) l) [ns] f∧f.Nodup∧(∀b∈f,w.heap.size≤b∧b<w'.heap.size∧¬z b)∧(∀b,z b→w.heap.size≤b∧b<w'.heap.size):=by
 obtain⟨_,f,hnd,hfb,hrv⟩:=PD (t:=t) ht hown;refine⟨hB,d,(),hK,v,f,fun _=>False,rfl,?_,hnd,fun x hx=>⟨(hfb x hx).1,(hfb x hx).2,id⟩,fun _ h=>h.elim⟩;have:=RVs.cons _ _ _ _ _ _ (hrv (hctx prog fun _=>False)) .nil;rw[List.append_nil]at this;exact this
theorem Akm:U6 (Pg.of prog):=by
 rintro⟨p,m,n⟩ hp hm hn hasc;dsimp only at hp hm hn hasc
 refine Fn.R7 (ps:=EP.ps) (t:=ID) (tt:=.node .own .leaf) rfl rfl (p,(m,n)) fun f fn hf hfn=>?_
 have hfi:f=226:=E3 (by kernel_rfl) hf hfn;subst hfi;have hfe:=Option.some.inj (hf.symm.trans func226);subst hfe;refine⟨by kernel_rfl,by kernel_rfl,fun μ sv w vs hsv hw hargs=>?_⟩;have hsv:svs μ dv dl [.one (.sl .brw .leaf (.pair (.int .i64) (.int .i64)) p),.one (.int .i64 m),.one (.int .i64 n)] sv:=hsv
 match sv,hsv with
 |[s0,s1,s2],⟨⟨a0,e0,r0⟩,⟨a1,e1,r1⟩,⟨a2,e2,r2⟩,_⟩=>
  have r0:a0=.sl .brw 2 (p.map ((BT.pair (.int .i64) (.int .i64)).enc .leaf)):=r0;have r1:a1=.lit (.int .i64 m):=r1;have r2:a2=.lit (.int .i64 n):=r2;subst e0 r0 e1 r1 e2 r2;obtain⟨hsize,hat⟩:=hargs;obtain⟨C0,f0,_,h0⟩:=hat 0 _ rfl;obtain⟨C1,f1,_,h1⟩:=hat 1 _ rfl;obtain⟨C2,f2,_,h2⟩:=hat 2 _ rfl
  obtain⟨pa,ca,hv0,hva,hcap,hnil⟩:=Aem (show RV C0 w (.sl .brw 2 (p.map ((BT.pair (.int .i64) (.int .i64)).enc .leaf))) (vs.getD 0 undef) f0 from h0);have hv1:vs.getD 1 undef=.int .i64 m:=RV.Dj (show RV C1 w (.lit (.int .i64 m)) (vs.getD 1 undef) f1 from h1);have hv2:vs.getD 2 undef=.int .i64 n:=RV.Dj (show RV C2 w (.lit (.int .i64 n)) (vs.getD 2 undef) f2 from h2)
  have hvs:=Aom hsize hv0 hv1 hv2;subst hvs;refine(AaY p m n pa ca w hp hm hn hasc hva hcap hnil).mono ?_;rintro e w' ⟨v,rfl,hown,hB⟩;exact Afu (t:=ID) (K:=fun d _=>d=OM m n p 0 0) rfl (show w'.ownsRow w.heap.size 225 4 v (OM m n p 0 0).length ((OM m n p 0 0).map ID.fl).flatten from hown) hB rfl
end Go.Proofs.Tryz
