/- slices.Concat at strings, walked. -/
import Derived.Test.YtopngokkgogolaaGreatDoorKKCC
import Derived.Test.YtopngokkgogolaaGreatDoorKS0
set_option linter.unusedVariables false
set_option linter.unusedSimpArgs false
open List renaming getElem?_eq_getElem → Qa0, take_of_length_le → Qa2
open Nat renaming le_refl → Qa1
namespace Go.Proofs.Tryz
open Go.RowKit Go.VS Go Go.Sort
set_option maxHeartbeats 2000000 in
set_option maxRecDepth 100000 in
theorem Abb(n:Nat)(hn:n≤1000000)(w:World):Calls prog 198 #[.slice none 0 0,.int .i64 n] w fun e w'=>∃v,e=.returned v∧w'.ownsRow w.heap.size 9 1 v 0 []∧Below w.heap.size w w':=by
 obtain⟨i0,hi,hz0,hz1,hz2⟩:=info_parts (P:=prog) (e:=9) (z:=.string ⟨#[]⟩) (size:=1) (bytes:=16) (by kernel_rfl)
 by_cases h0:n=0
 ·subst h0
  go_enter func198,ntmps198
  go_wp2
  go_ret
  exact⟨_,rfl,World.ownsRow_nil _ _ _ _,Below.refl _ w⟩
 ·have hp:0<n:=by omega
  go_enter func198,ntmps198
  go_wp2_with (at_builtin;refine Lib.wpList_append_run _ rfl _ _ 23 3 rfl _ _ rfl rfl _ _ (Lib.run_append_nil_zeros w 23 3 _ 9 i0 _ _ _ underlying23 underlying3 hi hz0 n hp (by rw[hz1];decide) (by omega) (by rw[hz2];omega)) ?_)
  have hge:=grownCap_ge w n 0 9;have hcm:grownCap w n 0 9≤maxLen:=grownCap_le_maxLen w n 0 9 (by unfold maxLen;omega)
  generalize grownCap w n 0 9=c at hge hcm
  go_wp2
  go_ret
  exact⟨_,rfl,Wd (z:=.string ⟨#[]⟩) rfl hge hcm,((Below.refl _ w).drew).alloc (Qa1 _) _⟩
abbrev Ahl(w:World)(B:Nat)(v:Value)(l:List Bs):Prop:=AfJ .str 9 w B v l
set_option maxHeartbeats 4000000 in
set_option maxRecDepth 100000 in
theorem XK(x:List (List Bs))(pa:Option Addr)(ca:Nat)(w:World)(hx:x.length≤1000)(hl:∀l∈x,l.length≤1000)(hv:AcN .str w pa x):
  Calls prog 128 #[.slice pa x.length ca] w fun e w'=>∃v,e=.returned v∧Ahl w' w.heap.size v x.flatten∧Below w.heap.size w w':=by
 obtain⟨i0,hi,hz0,hz1,hz2⟩:=info_parts (P:=prog) (e:=9) (z:=.string ⟨#[]⟩) (size:=1) (bytes:=16) (by kernel_rfl);have hfl:=Ae1 hx hl
 go_enter func128,ntmps128
 go_wp2
 go_loopw [3,11] (fun s i wr=>∃k:Nat,k≤x.length∧i=.int .i64 k∧s=.int .i64 ((x.take k).flatten.length:Nat)∧w=wr) (fun _ i _=>x.length -(Lib.intOf i).toNat)
 case atStart=>exact⟨0,Nat.zero_le _,rfl,rfl,rfl⟩
 case round=>
  obtain⟨k,hk,hi2,hs,hw⟩:=hrel;subst hi2 hs hw;have hk0:=hfl k
  by_cases hks:k<x.length
  ·obtain⟨b,off,a',c',rfl,hb,hc,-,-⟩:=hv k x[k] (Qa0 hks);have hnx:=congrArg List.length (PG (Qa0 hks));rw[List.length_append]at hnx;have hk1:=hfl (k+1);rw[hnx]at hk1;generalize x[k]=l at hc hnx hk1;generalize(x.take k).flatten.length=m0 at hnx hk0 hk1;clear hfl hv hl
   go_wp2
   go_roundw
   case rel=>exact⟨k+1,by omega,by simp,by rw[hnx];simp,trivial⟩
   case measure=>simp only[Lib.intOf];omega
  ·have hke:k=x.length:=by omega
   subst hke;rw[Qa2 (Qa1 _)]at hk0⊢;generalize x.flatten.length=N at hk0⊢;have hg:=Abb N hk0 w
   go_wp2_with (go_at_call 198;refine hg.mono ?_;rintro e w1 ⟨v1,rfl,hown1,hB1⟩)
   have hC0:Ahl w1 w.heap.size v1 ((x.take 0).flatten):=hown1;clear hown1 hg
   go_loopw [6,27] (fun v i wr=>∃k:Nat,k≤x.length∧i=.int .i64 k∧Ahl wr w.heap.size v ((x.take k).flatten)∧Below w.heap.size w wr) (fun _ i _=>x.length -(Lib.intOf i).toNat)
   case atStart=>exact⟨0,Nat.zero_le _,rfl,hC0,hB1⟩
   case round=>
    clear hC0 hB1;obtain⟨k,hk,hi2,hC,hB⟩:=hrel;subst hi2
    by_cases hks:k<x.length
    ·obtain⟨b,off,a',c',rfl,hb,hc,hn0,hr⟩:=hv k x[k] (Qa0 hks);have hc1:=(hB.cell (p:=⟨b,off+k,none⟩) hb).trans hc;have hnx:=PG (Qa0 hks);have hk1:=hfl (k+1);rw[hnx,List.length_append]at hk1;have hr1:=hr.below hB;have hsz:=hB.size;generalize x[k]=l at hc1 hn0 hr1 hnx hk1
     generalize(x.take k).flatten=m0 at hnx hk1 hC;clear hfl hv hl hc hr
     go_wp2_with (at_builtin;refine Anm (t:=.str) rfl (by decide) underlying23 hi hz0 hz1 hz2 rfl (by decide) w.heap.size (l:=m0) (m:=l) rfl rfl rfl hC rfl hn0 hr1 hk1 hsz ?_)
     intro v2 w2 hown2 hg2;have hB2:=below_grow hB hg2 (fun i h=>(World.ownsRow.lt hC i h).1) (Qa1 _)
     go_wp2
     go_roundw
     case rel=>exact⟨k+1,by omega,by simp,by rw[hnx];exact hown2,hB2⟩
     case measure=>simp only[Lib.intOf];omega
    ·have hke:k=x.length:=by omega
     subst hke;rw[Qa2 (Qa1 _)]at hC
     go_wp2
     go_ret
     exact⟨_,rfl,hC,hB⟩
theorem Ado:M9 (Pg.of prog):=by
 intro x hx hl
 refine Fn.R7 (ps:=Cx.ps) (t:=.str) (tt:=.node .own .leaf) rfl rfl x fun f fn hf hfn=>?_
 have hfi:f=128:=E3 (by kernel_rfl) hf hfn;subst hfi;have hfe:=Option.some.inj (hf.symm.trans func128);subst hfe;refine⟨by kernel_rfl,by kernel_rfl,fun μ sv w vs hsv hw hargs=>?_⟩;have hsv:svs μ dv dl [.one (.sl .brw (.node .brw .leaf) (.sl .str) x)] sv:=hsv
 match sv,hsv with
 |[s0],⟨⟨a0,e0,r0⟩,_⟩=>
  have r0:a0=.sl .brw 1 (x.map fun l=>[AV.sl .brw BT.str.size (l.map (BT.str.enc .leaf))]):=r0;subst e0 r0;obtain⟨hsize,hat⟩:=hargs;obtain⟨C0,f0,_,h0⟩:=hat 0 _ rfl;obtain⟨pa,ca,hv0,hva⟩:=Su (t:=.str) rfl (show RV C0 w (.sl .brw 1 (x.map fun l=>[AV.sl .brw BT.str.size (l.map (BT.str.enc .leaf))])) (vs.getD 0 undef) f0 from h0);have hvs:=AnU hsize hv0;subst hvs
  refine(XK x pa ca w hx hl hva).mono ?_;rintro e w' ⟨v,rfl,hown,hB⟩;exact Aca (t:=.str) rfl hown hB rfl
end Go.Proofs.Tryz
