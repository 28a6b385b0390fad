/- changes.Everywhere: the errors of the graph. -/
import Derived.Test.YtfkfmokccekccaaGreatDoorProg
import Derived.Test.YtfkfmokccekccaaGreatDoorKSm3
import Derived.Test.YtfkfmokccekccaaGreatDoorFwD
import Derived.WalkSmall
import Derived.Deep.QuietTactic
import Derived.BigQuiet
set_option linter.unusedVariables false
set_option linter.unusedSimpArgs false
namespace Go.Proofs.Tryz
open Go.RowKit Go.VS Go
theorem Ahf{vs:Array Value}{a b:Value}(h:vs.size=2)(h0:vs.getD 0 undef=a)(h1:vs.getD 1 undef=b):vs=#[a,b]:=by
 apply Array.ext
 ·simpa using h
 ·intro i hi1 hi2
  have hi:i=0∨i=1:=by simp at hi2;omega
  rcases hi with rfl|rfl
  ·have:vs.getD 0 undef=vs[0]:=by simp[hi1]
   rw[←this,h0];rfl
  ·have:vs.getD 1 undef=vs[1]:=by simp[hi1]
   rw[←this,h1];rfl
theorem Aal{C:Ctx}{w:World}{τ:Tag}{k:Nat}{xs:List (List AV)}{v:Value}{f:List Nat}(h:RV C w (.sl τ k xs) v f):∃a n c,v=.slice a n c:=by
 cases h<;>exact⟨_,_,_,rfl⟩
set_option maxHeartbeats 1000000 in
theorem PQ(pa:Option Addr)(n ca:Nat)(c:Int)(w:World)(Q:Int→Prop)(hQ:∀r,Q r→¬r=0)
  (hck:Calls prog 47 #[.slice pa n ca,.int .i64 c] w fun e w'=>∃r,Q r∧e=.returned (.int .i64 r)∧Below w.heap.size w w'):
  Calls prog 16 #[.slice pa n ca,.int .i64 c] w fun e w'=>∃r,Q r∧e=.returned (.tuple #[.slice none 0 0,.int .i64 r])∧Below w.heap.size w w':=by
 go_enter func16,ntmps16
 go_wp2_with (go_at_call 47;refine hck.mono ?_;rintro e w1 ⟨E,hq,rfl,hB1⟩;have hE:=hQ E hq)
 go_ret2
 exact⟨E,hq,rfl,hB1⟩
theorem AgM(hC:EX (Pg.of prog)):AbV (Pg.of prog):=by
 rintro⟨g,c⟩ hs hno
 dsimp only at hs hno
 refine Fn.Vt (ps:=[.val false (.sl AB) (.node .brw (.pair (.node .brw .leaf) (.pair .leaf (.node .brw .leaf)))),.val false (.int .i64) .leaf]) (t:=.str) (tt:=.node .own .leaf) rfl rfl (g,c) fun f fn hf hfn=>?_
 have hfi:f=16:=IM (by kernel_rfl) hf hfn
 subst hfi
 have hfe:=Option.some.inj (hf.symm.trans func16)
 subst hfe
 refine⟨by kernel_rfl,by kernel_rfl,fun μ sv w vs hsv hw hargs=>?_⟩
 have hsv:svs μ dv dl [.one (.sl .brw (.pair (.node .brw .leaf) (.pair .leaf (.node .brw .leaf))) AB g),.one (.int .i64 c)] sv:=hsv
 match sv,hsv with
 |[s0,s1],⟨⟨a0,e0,r0⟩,⟨a1,e1,r1⟩,_⟩=>
  have r0:a0=.sl .brw AB.size (g.map (AB.enc (.pair (.node .brw .leaf) (.pair .leaf (.node .brw .leaf))))):=r0
  have r1:a1=.lit (.int .i64 c):=r1
  subst e0 r0 e1 r1
  have hrd:Reads (Pg.of prog) w [.one (.sl .brw AB.size (g.map (AB.enc (.pair (.node .brw .leaf) (.pair .leaf (.node .brw .leaf)))))),.one (.lit (.int .i64 c))] vs:=by
   refine UB hargs (fun s hs=>?_) (fun _ _=>rfl) (Nat.le_refl _)
   simp only[List.mem_cons,List.not_mem_nil,or_false]at hs
   rcases hs with rfl|rfl
   ·exact⟨_,rfl,by simp only[AV.rdo];exact Mf (fun x=>NW AB _ rfl x) g⟩
   ·exact⟨_,rfl,rfl⟩
  obtain⟨hsize,hat⟩:=hargs
  obtain⟨C0,f0,_,h0⟩:=hat 0 _ rfl
  obtain⟨C1,f1,_,h1⟩:=hat 1 _ rfl
  obtain⟨pa,n,ca,hv0⟩:=Aal (show RV C0 w (.sl .brw AB.size (g.map (AB.enc (.pair (.node .brw .leaf) (.pair .leaf (.node .brw .leaf)))))) (vs.getD 0 undef) f0 from h0)
  have hv1:vs.getD 1 undef=.int .i64 c:=RV.Dm (show RV C1 w (.lit (.int .i64 c)) (vs.getD 1 undef) f1 from h1)
  have hvs:=Ahf hsize hv0 hv1
  subst hvs
  have hck:Calls prog 47 #[.slice pa n ca,.int .i64 c] w fun e w'=>∃r:Int,(∃e,DC g e∧(e≠0→r=e)∧(e=0→(inR g c→r=0)∧(¬inR g c→r=5)))∧e=.returned (.int .i64 r)∧Below w.heap.size w w':=by
   refine(Fn.YB (fun _ h=>h) (S:=BI) rfl rfl (hC (g,c) hs) func47 (by kernel_rfl) hw (μ:=μ) (show svs μ dv dl [.one (.sl .brw (.pair (.node .brw .leaf) (.pair .leaf (.node .brw .leaf))) AB g),.one (.int .i64 c)] [.one (.sl .brw AB.size (g.map (AB.enc (.pair (.node .brw .leaf) (.pair .leaf (.node .brw .leaf)))))),.one (.lit (.int .i64 c))]from⟨⟨_,rfl,rfl⟩,⟨_,rfl,rfl⟩,trivial⟩) hrd).mono ?_
   rintro e w' ⟨r,d,hr,rfl,hB⟩
   exact⟨r,hr,rfl,hB⟩
  refine(PQ pa n ca c w _ (fun r hr=>?_) hck).mono ?_
  ·obtain⟨e,he,h1,_⟩:=hr
   have hne:e≠0:=fun h=>hno (h▸he)
   rw[h1 hne]
   exact hne
  ·rintro e w' ⟨r,⟨k,hk,h1,_⟩,rfl,hB⟩
   have hne:k≠0:=fun h=>hno (h▸hk)
   have hr:=h1 hne
   subst hr
   exact⟨hB,[],_,(),⟨rfl,hk⟩,_,[],fun _=>False,rfl,.cons _ _ [] _ _ [] (.slNil _ _) .nil,List.nodup_nil,fun x hx=>(nomatch hx),fun _ h=>h.elim⟩
end Go.Proofs.Tryz
