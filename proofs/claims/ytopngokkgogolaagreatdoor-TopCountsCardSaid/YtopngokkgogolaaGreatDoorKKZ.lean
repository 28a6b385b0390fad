/- tree.Diff: sorted, and as a contract. -/
import Derived.Test.YtopngokkgogolaaGreatDoorKKX
import Derived.Test.YtopngokkgogolaaGreatDoorKKY
import Derived.Test.YtopngokkgogolaaGreatDoorKKShelf
import Derived.Test.YtopngokkgogolaaGreatDoorKS0
import Derived.Shelf.SlSortCmp.NoneTotal
set_option linter.unusedVariables false
set_option linter.unusedSimpArgs false
open List renaming size_toArray → Qa0
namespace Go.Proofs.Tryz
open Go.Shelf Go.RowKit Go.VS Go Go.Maps Go.Sort Go.Lib
theorem AaJ:∀x y:Bs,decide (Lib.compareBytes x y<0)=Op.bytesLess x y
 |[],[]=>rfl
 |[],_::_=>rfl
 |_::_,[]=>rfl
 |a::x,b::y=>by
  have ih:=AaJ x y;unfold Lib.compareBytes Op.bytesLess
  by_cases h1:a<b
  ·simp[h1]
  ·by_cases h2:b<a
   ·have h3:(a==b)=false:=by
     rw[beq_eq_false_iff_ne];rintro rfl;exact h1 h2
    simp[h1,h2,h3]
   ·have h3:a=b:=by
     rcases UInt8.lt_or_lt_of_ne (a:=a) (b:=b)with h
     by_cases e:a=b
     ·exact e
     ·rcases UInt8.lt_or_lt_of_ne e with h|h
      ·exact absurd h h1
      ·exact absurd h h2
    subst h3;simp only[h1,if_false,decide_false,beq_self_eq_true,Bool.true_and,Bool.false_or];exact ih
theorem ltD(x y:BN):ltOf (fun x y:BN=>Lib.compareBytes x.1 y.1) x y=Op.bytesLess x.1 y.1:=by
 unfold ltOf;exact AaJ x.1 y.1
theorem AmO{α:Type}{lt:α→α→Bool}(f:α→Bs)(h:∀x y,lt x y=Op.bytesLess (f x) (f y)):SWO lt where
 irrefl x:=by rw[h];exact F7 _
 trans x y z h1 h2:=by rw[h]at*;exact Mu h1 h2
 ntrans x y z h1 h2:=by
  rw[h]at*
  cases h3:Op.bytesLess (f x) (f z)with
  |false=>rfl
  |true=>
   by_cases e:f y=f x
   ·rw[e,h3]at h2;cases h2
   ·rcases VK e with h4|h4
    ·rw[Mu h4 h3]at h2;cases h2
    ·rw[h4]at h1;cases h1
set_option maxHeartbeats 1000000 in
theorem Aoc(x y:BN)(W:World):Calls prog 213 #[.agg #[.string ⟨x.1.toArray⟩,.int .i64 x.2],.agg #[.string ⟨y.1.toArray⟩,.int .i64 y.2]] W fun e w'=>e=.returned (.int .i64 (Lib.compareBytes x.1 y.1))∧∃q os',w'=grow (W.drewN q) os':=by
 have hcon:∀W',Calls prog 214 #[.string ⟨x.1.toArray⟩,.string ⟨y.1.toArray⟩] W' fun e w'=>e=.returned (.int .i64 (Lib.compareBytes x.1 y.1))∧w'=W':=fun W'=>by
  have:=Tryz.strings_Compare ⟨x.1.toArray⟩ ⟨y.1.toArray⟩ W';simpa using this
 generalize Lib.compareBytes x.1 y.1=r at hcon⊢
 go_enter func213,ntmps213
 go_wp2_with (go_at_call 214;refine(hcon _).mono ?_;rintro e w' ⟨rfl,rfl⟩)
 go_ret
 exact⟨rfl,0,_,by rw[alloc_eq_grow,alloc_eq_grow,grow_grow];rfl⟩
theorem Aek(B:Nat):Alh B:=by
 intro v d W hown hd;have hown':=hown;obtain⟨hlen,h⟩:=hown
 rcases h with⟨rfl,hn⟩|⟨g,cap,cur,rfl,hg,hb,hnc,hcm,hcs,htk⟩
 ·have hn:d=[]:=List.length_eq_zero_iff.1 hn;subst hn;refine(AnyF.slices_SortFunc_none (P:=prog) (ρ:=Tryz.Y1) {Tryz.Aly with} none 0 _ W).mono ?_;rintro e w' ⟨rfl,rfl⟩;exact⟨rfl,⟨rfl,rfl,rfl,Nat.le_refl _,fun _ _ _=>rfl⟩,[],.refl _,.nil,hown'⟩
 ·have hH:=UX (enc:=Adv) (k:=2) (fun _=>rfl) hb htk;have hlt:g<W.heap.size:=(Array.getElem?_eq_some_iff.1 hb).1
  have hcon:=AnyQ.slices_SortFunc Tryz.Aly 2 Tryz.isAgg63 Tryz.sizeOf63 Adv (fun _=>rfl) (fun x u hu=>by simp[Adv]at hu;rcases hu with rfl|rfl<;>rfl) (fun x y=>Lib.compareBytes x.1 y.1) (AmO (·.1) ltD) 213 #[] g 0 cap d.toArray W (enters_of func213 (by kernel_rfl) rfl)
   (fun _ _ _ _ x y=>Aoc x y _) hH hlt (by rw[Qa0];omega)
  rw[Qa0]at hcon;refine hcon.mono ?_;rintro e w' ⟨rfl,d',n,os,hp,hs,rfl⟩;have hpl:=toList_perm (d:=d.toArray) (d':=d') (by rw[Qa0];exact hp)
  rw[List.toList_toArray]at hpl;refine⟨rfl,UN _,d'.toList,hpl,?_,?_⟩
  ·have:=Ya (lt:=ltOf fun x y:BN=>Lib.compareBytes x.1 y.1) (d:=d.toArray) (d':=d') (by have:=hp.1;simpa using this) (by rw[Qa0];exact hs)
   exact this.imp fun{x y} h=>by rw[←ltD];exact h
  ·have:=UZ (enc:=Adv) (k:=2) (fun _=>rfl) (w:=W) (base:=B) (n:=n) (os:=os) (ss:=d) (ts:=d'.toList) hpl.length_eq hg hb hnc hcm hcs;rw[Array.toArray_toList]at this;unfold Mk;rw[hpl.length_eq];exact this
theorem vs2{vs:Array Value}{a b:Value}(h:vs.size=2)(h0:vs.getD 0 undef=a)(h1:vs.getD 1 undef=b):vs=#[a,b]:=by
 apply Array.ext
 ·simpa using h
 ·intro i hi1 hi2
  have hi:i=0∨i=1:=by simp at hi2;omega
  rcases hi with rfl|rfl
  ·have:vs.getD 0 undef=vs[0]:=by simp[hi1]
   rw[←this,h0];rfl
  ·have:vs.getD 1 undef=vs[1]:=by simp[hi1]
   rw[←this,h1];rfl
theorem Aj1(hBo:Vw (Pg.of prog)):Oj (Pg.of prog):=by
 rintro⟨a,b⟩ ha hb;dsimp only at ha hb
 refine Fn.Afm (ps:=[.val false (.sl (.pair .str .str)) (.node .brw .leaf),.val false (.sl (.pair .str .str)) (.node .brw .leaf)]) (t:=.pair .str (.int .i64)) (tt:=.node .own .leaf) rfl rfl (a,b) fun f fn hf hfn=>?_
 have hfi:f=143:=E3 (by kernel_rfl) hf hfn;subst hfi;have hfe:=Option.some.inj (hf.symm.trans func143);subst hfe;refine⟨by kernel_rfl,by kernel_rfl,fun μ sv w vs hsv hw hargs=>?_⟩;have hsv0:=hsv;have hargs0:=hargs;obtain⟨hsize,hat⟩:=hargs;have hsv:svs μ dv dl [.one (.sl .brw .leaf (.pair .str .str) a),.one (.sl .brw .leaf (.pair .str .str) b)] sv:=hsv
 match sv,hsv with
 |[s0,s1],⟨⟨a0,e0,r0⟩,⟨a1,e1,r1⟩,_⟩=>
  have r0:a0=.sl .brw 2 (a.map ((BT.pair .str .str).enc .leaf)):=r0;have r1:a1=.sl .brw 2 (b.map ((BT.pair .str .str).enc .leaf)):=r1;subst e0 r0 e1 r1;obtain⟨C0,f0,_,h0⟩:=hat 0 _ rfl;obtain⟨C1,f1,_,h1⟩:=hat 1 _ rfl;obtain⟨pa,ca,hv0,hst0⟩:=V7 (show RV C0 w (.sl .brw 2 (a.map ((BT.pair .str .str).enc .leaf))) (vs.getD 0 undef) f0 from h0)
  obtain⟨pb,cb,hv1,hst1⟩:=V7 (show RV C1 w (.sl .brw 2 (b.map ((BT.pair .str .str).enc .leaf))) (vs.getD 1 undef) f1 from h1);have hvs:=vs2 hsize hv0 hv1;subst hvs
  have hrd:=AiO hargs0 (fun s hs=>by
   simp only[List.mem_cons,List.not_mem_nil,or_false]at hs
   rcases hs with rfl|rfl
   ·exact .inr ⟨2,_,rfl,Al6 a⟩
   ·exact .inr ⟨2,_,rfl,Al6 b⟩) (fun _ _=>rfl) (Nat.le_refl _)
  have hbo:Calls prog 210 #[.slice pa a.length ca,.slice pb b.length cb] w fun e w'=>e=.returned (.int .i64 (P1 a b))∧Below w.heap.size w w':=by
   refine(Fn.Adf (fun _ h=>h) (S:=Lv) rfl rfl (hBo (a,b) ha hb) func210 (by kernel_rfl) hw hsv0 hrd).mono ?_;rintro e w' ⟨r,d,hr,rfl,hB⟩;have hr:r=P1 a b:=hr;subst hr;exact⟨rfl,hB⟩
  by_cases hz:P1 a b=0
  ·rw[hz]at hbo
   have hord:Ga a=0∧Ga b=0:=by
    unfold P1 at hz;split at hz
    ·rename_i h;exact absurd hz h
    ·rename_i h;exact⟨by omega,hz⟩
   refine(Ads a b ha hb pa pb ca cb w hst0 hst1 hbo (Aek _)).mono ?_;rintro e w' ⟨v,d,rfl,hB,hown,hp,hs⟩;obtain⟨_,g,hnd,hgb,hrv⟩:=PD (t:=.pair .str (.int .i64)) rfl (show w'.ownsRow w.heap.size 63 2 v d.length (d.map (BT.pair .str (.int .i64)).fl).flatten from hown)
   refine⟨hB,d,0,(),⟨hz.symm,fun h=>absurd rfl h,fun _=>?_⟩,v,g,fun _=>False,rfl,?_,hnd,fun x hx=>⟨(hgb x hx).1,(hgb x hx).2,id⟩,fun _ h=>h.elim⟩
   ·exact Abl (Va hord.1) (Va hord.2) hp hs
   ·have:=RVs.cons _ _ _ _ _ _ (hrv (hctx prog fun _=>False)) .nil;rw[List.append_nil]at this;exact this
  ·refine(AhT a b pa pb ca cb w _ hz hbo).mono ?_;rintro e w' ⟨rfl,hB⟩;exact⟨hB,[],P1 a b,(),⟨rfl,fun _=>rfl,fun h=>absurd h hz⟩,_,[],fun _=>False,rfl,.cons _ _ [] _ _ [] (.slNil _ _) .nil,List.nodup_nil,fun x hx=>(nomatch hx),fun _ h=>h.elim⟩
end Go.Proofs.Tryz
