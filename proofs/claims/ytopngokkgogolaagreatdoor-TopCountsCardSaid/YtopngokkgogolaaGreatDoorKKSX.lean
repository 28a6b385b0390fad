/- shortest.walk, walked. -/
import Derived.Test.YtopngokkgogolaaGreatDoorKKSW
set_option linter.unusedVariables false
set_option linter.unusedSimpArgs false
open List renaming drop_eq_getElem_cons → Qa0, length_drop → Qa2, drop_of_length_le → Qa4, getElem?_eq_getElem → Qa5, nil_append → Qa6
open Nat renaming le_refl → Qa1
open Int renaming add_zero → Qa3
namespace Go.VS
open Go.RowKit Go
theorem AgL{w:World}{g:Nat}{u v:Value}{e:TypeId}(h:w.heap[g]?=some (.cells #[u] e (0,0))):(w.setCell ⟨g,0,none⟩ v).heap[g]?=some (.cells #[v] e (0,0)):=by
 simp[World.setCell,Array.getElem?_modify,h]
def My(n:Nat):List (Int×Int):=(List.range n).map fun(i:Nat)=>((i:Int),(i:Int))
theorem Af1(n:Nat):My (n+1)=My n++[((n:Int),(n:Int))]:=by
 unfold My;rw[List.range_succ,List.map_append];rfl
theorem AaL(n:Nat):(My n).length=n:=by unfold My;simp
def Ym(n:Nat)(i j:Int):List (Int×Int):=(List.range n).map fun(t:Nat)=>(i+(t:Int),j+(t:Int))
theorem Adq(n:Nat)(i j:Int):Ym (n+1) i j=(i,j)::Ym n (i+1) (j+1):=by
 unfold Ym;rw[List.range_succ_eq_map,List.map_cons,List.map_map];refine congr (congrArg List.cons (by simp)) (List.map_congr_left fun t _=>?_);show(i+((t+1:Nat):Int),j+((t+1:Nat):Int))=(i+1+(t:Int),j+1+(t:Int));rw[show i+((t+1:Nat):Int)=i+1+(t:Int)by omega,show j+((t+1:Nat):Int)=j+1+(t:Int)by omega]
theorem Adr(n:Nat):Ym n 0 0=My n:=by
 unfold Ym My
 exact List.map_congr_left fun t _=>by rw[Int.zero_add]
theorem AfH:∀(a b:List Int) (i j:Int),Ym (Fo a b) i j++GA (a.drop (Fo a b)) (b.drop (Fo a b)) (i+(Fo a b:Nat)) (j+(Fo a b:Nat))=GA a b i j
 |x::a,y::b,i,j=>by
  by_cases e:x=y
  ·rw[Ajk e,←AfH a b (i+1) (j+1)];rw[show Fo (x::a) (y::b)=Fo a b+1 by rw[Fo,if_pos e],Adq,List.drop_succ_cons,List.drop_succ_cons,List.cons_append];rw[show i+((Fo a b+1:Nat):Int)=i+1+((Fo a b:Nat):Int)by omega,show j+((Fo a b+1:Nat):Int)=j+1+((Fo a b:Nat):Int)by omega]
  ·rw[show Fo (x::a) (y::b)=0 by rw[Fo,if_neg e]];show[]++GA (x::a) (y::b) (i+0) (j+0)=_;rw[Qa6,Qa3,Qa3]
 |[],b,i,j=>by
  rw[show Fo [] b=0 by cases b<;>rfl];show[]++GA [] b (i+0) (j+0)=_;rw[Qa6,Qa3,Qa3]
 |x::a,[],i,j=>by
  rw[show Fo (x::a) []=0 from rfl];show[]++GA (x::a) [] (i+0) (j+0)=_;rw[Qa6,Qa3,Qa3]
def WkI(a b:List Int)(n:Nat)(M:List (Int×Int))(i j:Nat)(o:List (Int×Int)):Prop:=o++GA (a.drop i) (b.drop j) ((n:Int)+(i:Int)) ((n:Int)+(j:Int))=M∧o.length≤n+i∧i≤a.length∧j≤b.length
theorem WkI.start{a b:List Int}:WkI (a.drop (Fo a b)) (b.drop (Fo a b)) (Fo a b) (GA a b 0 0) 0 0 (My (Fo a b)):=by
 refine⟨?_,by rw[AaL];exact Qa1 _,Nat.zero_le _,Nat.zero_le _⟩
 have:=AfH a b 0 0;rw[Adr,Int.zero_add]at this;rw[List.drop_zero,List.drop_zero];show _++GA _ _ ((Fo a b:Nat)+0) ((Fo a b:Nat)+0)=_;rw[Qa3];exact this
theorem WkI.eq{a b:List Int}{n:Nat}{M o:List (Int×Int)}{i j:Nat}(h:WkI a b n M i j o)(hi:i<a.length)(hj:j<b.length)(e:a[i]=b[j]):WkI a b n M (i+1) (j+1) (o++[((n:Int)+(i:Int),(n:Int)+(j:Int))]):=by
 obtain⟨h1,h2,h3,h4⟩:=h;rw[Qa0 hi,Qa0 hj,Ajk e]at h1;refine⟨?_,by rw[List.length_append];simp only[List.length_cons,List.length_nil];omega,by omega,by omega⟩
 rw[List.append_assoc,List.singleton_append,←h1];rw[show((n:Int)+((i+1:Nat):Int))=(n:Int)+(i:Int)+1 by omega,show((n:Int)+((j+1:Nat):Int))=(n:Int)+(j:Int)+1 by omega]
theorem WkI.down{a b:List Int}{n:Nat}{M o:List (Int×Int)}{i j:Nat}(h:WkI a b n M i j o)(hi:i<a.length)(hj:j<b.length)(e:a[i]≠b[j])(hd:IX (a.drop (i+1)) (b.drop j)+1=IX (a.drop i) (b.drop j)):WkI a b n M (i+1) j o:=by
 obtain⟨h1,h2,h3,h4⟩:=h;refine⟨?_,by omega,by omega,by omega⟩;rw[←h1];rw[Qa0 hi,Qa0 hj]at hd⊢;rw[Ajj e hd,show((n:Int)+((i+1:Nat):Int))=(n:Int)+(i:Int)+1 by omega]
theorem WkI.right{a b:List Int}{n:Nat}{M o:List (Int×Int)}{i j:Nat}(h:WkI a b n M i j o)(hi:i<a.length)(hj:j<b.length)(e:a[i]≠b[j])(hd:¬IX (a.drop (i+1)) (b.drop j)+1=IX (a.drop i) (b.drop j)):WkI a b n M i (j+1) o:=by
 obtain⟨h1,h2,h3,h4⟩:=h;refine⟨?_,by omega,by omega,by omega⟩;rw[←h1];rw[Qa0 hi,Qa0 hj]at hd⊢;rw[Ahb e hd,show((n:Int)+((j+1:Nat):Int))=(n:Int)+(j:Int)+1 by omega]
theorem WkI.Anp{a b:List Int}{n:Nat}{M o:List (Int×Int)}{i:Nat}(h:WkI a b n M i b.length o)(hi:i<a.length):WkI a b n M (i+1) b.length o:=by
 obtain⟨h1,h2,h3,h4⟩:=h;refine⟨?_,by omega,by omega,by omega⟩;rw[←h1,Qa4 (l:=b) (Qa1 _),XG,XG]
theorem WkI.Ams{a b:List Int}{n:Nat}{M o:List (Int×Int)}{j:Nat}(h:WkI a b n M a.length j o)(hj:j<b.length):WkI a b n M a.length (j+1) o:=by
 obtain⟨h1,h2,h3,h4⟩:=h;refine⟨?_,by omega,by omega,by omega⟩;rw[←h1,Qa4 (l:=a) (Qa1 _),Vo,Vo]
theorem WkI.done{a b:List Int}{n:Nat}{M o:List (Int×Int)}(h:WkI a b n M a.length b.length o):o=M:=by
 have h1:=h.1;rw[Qa4 (l:=a) (Qa1 _),Vo,List.append_nil]at h1;exact h1
end Go.VS
namespace Go.Proofs.Tryz
open Go.Shelf Go.RowKit Go.VS Go Go.Sort
attribute [local go_sem ↓] Go.wp_at_zero Go.wp_at_succ
theorem AlV{w:World}{a:Option Addr}{l:List Int}(h:Mj w a l)(o:Obj):Mj (w.alloc o) a l:=
 h.below ((Below.refl _ w).alloc (Qa1 _) o)
def slA(p:Option Addr)(c k:Nat):Option Addr:=if c=k then p else p.map fun x=>x.add k
theorem Pv{w:World}{p:Option Addr}{l:List Int}{c:Nat}(h:Mj w p l)(hc:l.length≤c)(k:Nat):Mj w (slA p c k) (l.drop k):=
 ⟨fun j x hx=>by
  rw[List.getElem?_drop]at hx;have hl:=(List.getElem?_eq_some_iff.1 hx).1;obtain⟨b,off,h1,h2,h3⟩:=h.at_ (k+j) x hx;refine⟨b,off+k,?_,h2,by rw[Nat.add_assoc];exact h3⟩
  unfold slA;rw[if_neg (by omega),h1];show some (Addr.add ⟨b,off,none⟩ k)=_
  rw[Addr.add_lit]⟩
theorem Amd{w:World}{B:Nat}{e e2:TypeId}{size:Nat}{v:Value}{m g:Nat}{xs:List Value}{cur:Array Value}{fz:Nat×Nat}(h:w.ownsRow B e size v m xs)(hb:w.heap[g]?=some (.cells cur e2 fz))(hne:e≠e2):v.ownBlock≠some g:=by
 rcases h.2 with⟨rfl,_⟩|⟨g',cap,cur',rfl,_,hc,_⟩
 ·exact fun h=>nomatch h
 ·intro e1
  have:g'=g:=by simpa[Value.ownBlock]using e1
  subst this;rw[hb]at hc;cases hc;exact hne rfl
structure Tc(w:World)(Bb Bd Bt N:Nat)(vb:Value)(s:List Nat):Prop where
 tb:N4 w N Bt s
 cd:w.heap[Bd]?=some (.cells #[.slice (some ⟨Bt,0,none⟩) N N] 343 (0,0))
 cb:w.heap[Bb]?=some (.cells #[vb] 22 (0,0))
theorem Tc.cells{w:World}{Bb Bd Bt N:Nat}{vb:Value}{s:List Nat}(h:Tc w Bb Bd Bt N vb s):w.cell? ⟨Bd,0,none⟩=some (.slice (some ⟨Bt,0,none⟩) N N)∧w.cell? ⟨Bb,0,none⟩=some vb:=by
 have h1:=Am h.cd 0;have h2:=Am h.cb 0;exact⟨h1,h2⟩
theorem Tc.drew{w:World}{Bb Bd Bt N:Nat}{vb:Value}{s:List Nat}(h:Tc w Bb Bd Bt N vb s):Tc w.drew Bb Bd Bt N vb s:=⟨h.tb.drew,h.cd,h.cb⟩
theorem Tc.alloc{w:World}{Bb Bd Bt N:Nat}{vb:Value}{s:List Nat}(h:Tc w Bb Bd Bt N vb s)(o:Obj):Tc (w.alloc o) Bb Bd Bt N vb s:=by
 have hb:=(Below.refl w.heap.size w).alloc (Qa1 _) o;exact⟨h.tb.below hb,(hb.block _ (Array.getElem?_eq_some_iff.1 h.cd).1).trans h.cd,(hb.block _ (Array.getElem?_eq_some_iff.1 h.cb).1).trans h.cb⟩
theorem Tc.grown{w w':World}{B Bb Bd Bt N:Nat}{vb v:Value}{s:List Nat}{l:List (Int×Int)}(h:Tc w Bb Bd Bt N vb s)(hC:M6 w B v l)(hg:w.grownBy w' v.ownBlock):Tc w' Bb Bd Bt N vb s:=by
 have hk:∀{g:Nat} {cur:Array Value} {e2:TypeId} {fz:Nat×Nat},w.heap[g]?=some (.cells cur e2 fz)→175≠e2→w'.heap[g]?=some (.cells cur e2 fz):=fun{g cur e2 fz} hb hne=>
  (hg.block g (Array.getElem?_eq_some_iff.1 hb).1 (fun e1=>Amd hC hb hne e1.symm)).trans hb
 refine⟨⟨h.tb.len,⟨h.tb.own.1,?_⟩,Nat.lt_of_lt_of_le h.tb.lv hg.size⟩,hk h.cd (by decide),hk h.cb (by decide)⟩
 rcases h.tb.own.2 with q|⟨g,cap,cur,h1,h2,h3,h4⟩
 ·exact .inl q
 ·exact .inr ⟨g,cap,cur,h1,h2,hk h3 (by decide),h4⟩
theorem AdU{w w':World}{B:Nat}{v:Value}{l:List (Int×Int)}(h:M6 w B v l)(hb:Below w.heap.size w w'):M6 w' B v l:=by
 refine⟨h.1,?_⟩
 rcases h.2 with h|⟨g,cap,cur,h1,h2,h3,h4⟩
 ·exact .inl h
 ·have hlt:g<w.heap.size:=(Array.getElem?_eq_some_iff.1 h3).1;exact .inr ⟨g,cap,cur,h1,h2,(hb.block g hlt).trans h3,h4⟩
theorem Agx{w:World}{B B':Nat}{v:Value}{l:List (Int×Int)}(h:M6 w B v l)(hb:B'≤B):M6 w B' v l:=by
 refine⟨h.1,?_⟩
 rcases h.2 with h|⟨g,cap,cur,h1,h2,h3,h4⟩
 ·exact .inl h
 ·exact .inr ⟨g,cap,cur,h1,Nat.le_trans hb h2,h3,h4⟩
theorem Aiz{w:World}{B:Nat}{v:Value}{l:List (Int×Int)}(h:M6 w B v l){p:Addr}(hp:p.block<B)(u:Value):M6 (w.setCell p u) B v l:=by
 refine⟨h.1,?_⟩
 rcases h.2 with h|⟨g,cap,cur,h1,h2,h3,h4⟩
 ·exact .inl h
 ·refine .inr ⟨g,cap,cur,h1,h2,?_,h4⟩;rw[Below.heap_setCell _ _ _ _ (show g≠p.block by omega)];exact h3
set_option maxHeartbeats 4000000 in
set_option maxRecDepth 1000000 in
theorem AeD(a b:List Int)(pa pb:Option Addr)(ca cb:Nat)(w:World)(la:a.length≤4096)(lb:b.length≤4096)(hca:a.length≤ca)(hcb:b.length≤cb)(hna:pa=none→a=[]∧ca=0)(hnb:pb=none→b=[]∧cb=0)(ha:Mj w pa a)(hb:Mj w pb b):
  Calls prog 152 #[.slice pa a.length ca,.slice pb b.length cb] w fun e w'=>∃v,e=.returned v∧M6 w' w.heap.size v (GA a b 0 0)∧Below w.heap.size w w':=by
 have hB1:Below w.heap.size w (w.alloc (.cells #[.slice pb b.length cb] 22)):=(Below.refl _ w).alloc (Qa1 _) _;have hbeg:=Aax a b pa pb ca cb (w.alloc (.cells #[.slice pb b.length cb] 22)) la lb (ha.below hB1) (hb.below hB1);have hble:=AhH a b
 obtain⟨n,hn⟩:∃n,EqN n (Fo a b):=⟨_,rfl⟩
 rw[←show n=_ from hn]at hbeg hble
 go_enter func152,ntmps152
 go_wp2_with (go_at_call 227;refine hbeg.mono ?_;rintro e w1 ⟨rfl,hB2⟩)
 have hB3:Below w.heap.size w w1:=hB1.trans (hB2.mono (by simp));have hblk:w1.heap[w.heap.size]?=some (.cells #[.slice pb b.length cb] 22 (0,0)):=(hB2.block _ (by simp)).trans (heap_alloc_new w _)
 have hlt:w.heap.size<w1.heap.size:=by have:=hB2.size;simp at this;omega
 clear hbeg hB1 hB2;generalize hBb:w.heap.size=Bb at*;have hC0:M6 w1 w1.heap.size (.slice none 0 0) []:=World.ownsRow_nil _ _ _ _
 go_wp2
 go_loopw [5,16] (fun v5 i wr=>∃k:Nat,k≤n∧i=.int .i64 k∧M6 wr w1.heap.size v5 (My k)∧Below w1.heap.size w1 wr) (fun _ i _=>n -(Lib.intOf i).toNat)
 case atStart=>exact⟨0,Nat.zero_le _,rfl,hC0,Below.refl _ _⟩
 case round=>
  clear hC0;obtain⟨k,hk,hi,hC,hB⟩:=hrel;subst hi;have hsz:=hB.size
  by_cases hks:k<n
  ·have hlen:=AaL k;have hds:=Af1 k;generalize My k=o at hC hlen hds
   go_wp2_with (at_builtin;refine Anl w1.heap.size (p:=(k:Int)) (k:=(k:Int)) rfl rfl rfl (World.ownsRow.alloc hC _) rfl ?b0 ?b1 ?b2 ?b3 ?b4)
   case b0=>simp
   case b1=>simp
   case b2=>omega
   case b3=>(first|omega|(simp;omega))
   intro v2 w4 hown4 hg4;have hB4:=below_grow (hB.alloc hsz _) hg4 (fun i h=>(World.ownsRow.lt hC i h).1) (Qa1 _)
   go_wp2
   go_roundw
   case rel=>exact⟨k+1,by omega,by simp,by rw[hds];exact hown4,hB4⟩
   case measure=>simp only[Lib.intOf];omega
  ·have hke:k=n:=by omega
   subst hke;have hblk2:=(hB.block _ hlt).trans hblk;have hcel2:wr.cell? ⟨Bb,0,none⟩=some (.slice pb b.length cb):=Am hblk2 0
   have hfz2:wr.frozen? ⟨Bb,0,none⟩=false:=by simp[World.frozen?,hblk2]
   have hBw:Below w.heap.size w (wr.drew.setCell ⟨Bb,0,none⟩ (.slice (slA pb cb k) (b.length -k) (cb -k))):=by
    rw[hBb];exact((hB3.trans (hB.mono (by omega))).drew).setCell (p:=⟨Bb,0,none⟩) (Qa1 _) _
   have hblk3:(wr.drew.setCell ⟨Bb,0,none⟩ (.slice (slA pb cb k) (b.length -k) (cb -k))).heap[Bb]?=some (.cells #[.slice (slA pb cb k) (b.length -k) (cb -k)] 22 (0,0)):=by
    exact AgL (w:=wr.drew) hblk2
   have hC3:M6 (wr.drew.setCell ⟨Bb,0,none⟩ (.slice (slA pb cb k) (b.length -k) (cb -k))) w1.heap.size u5 (My k):=Aiz (w:=wr.drew) hC (show Bb<w1.heap.size by omega) _
   have hdist:=Adt (a.drop k) (b.drop k) (slA pa ca k) (slA pb cb k) (ca -k) (cb -k) (wr.drew.setCell ⟨Bb,0,none⟩ (.slice (slA pb cb k) (b.length -k) (cb -k))) (by rw[Qa2];omega) (by rw[Qa2];omega) (Pv (ha.below hBw) hca k) (Pv (hb.below hBw) hcb k)
   have hA2:∀W,Below w.heap.size w W→Mj W (slA pa ca k) (a.drop k):=fun W h=>Pv (ha.below h) hca k
   have hB2:∀W,Below w.heap.size w W→Mj W (slA pb cb k) (b.drop k):=fun W h=>Pv (hb.below h) hcb k
   have hst:WkI (a.drop k) (b.drop k) k (GA a b 0 0) 0 0 (My k):=by rw[show k=_ from hn];exact WkI.start
   rw[show(wr.drew.setCell ⟨Bb,0,none⟩ (.slice (slA pb cb k) (b.length -k) (cb -k))).heap.size=wr.heap.size by simp]at hdist;rw[Qa2,Qa2]at hdist
   obtain⟨N,hN⟩:∃N,EqN N ((a.length -k+1)*(b.length -k+1)):=⟨_,rfl⟩
   rw[←show N=_ from hN]at hdist;have lA:(a.drop k).length=a.length -k:=Qa2;have lB:(b.drop k).length=b.length -k:=Qa2
   have hm4:a.length -k≤4096:=by omega
   have hn4:b.length -k≤4096:=by omega
   have hk4:k≤4096:=by omega
   have ea:(if ca=k then pa else Option.map (fun x=>x.add k) pa)=slA pa ca k:=rfl;have eb:(if cb=k then pb else Option.map (fun x=>x.add k) pb)=slA pb cb k:=rfl;clear ha hb hblk hBw
   have hBw:Below Bb w (wr.drew.setCell ⟨Bb,0,none⟩ (.slice (slA pb cb k) (b.length -k) (cb -k))):=
    ((hB3.trans (hB.mono (by omega))).drew).setCell (p:=⟨Bb,0,none⟩) (Qa1 _) _
   rw[hBb]at hA2 hB2;generalize slA pa ca k=pa2 at ea hdist hA2;generalize slA pb cb k=pb2 at eb hdist hB2 hBw hblk3 hC3;generalize a.drop k=A at hdist hA2 hst lA;generalize b.drop k=Bl at hdist hB2 hst lB;generalize hM:GA a b 0 0=M at hst
   go_wp2_with fail
   go_region
   go_wp2_with (go_at_call 228;refine hdist.mono ?_;rintro e w5 ⟨s,rfl,hT,hK,hB5⟩)
   have hsz4:(wr.drew.setCell ⟨Bb,0,none⟩ (.slice pb2 (b.length -k) (cb -k))).heap.size=wr.heap.size:=by simp
   have hsz5:=hB5.size;rw[hsz4]at hsz5;have hC6:M6 (w5.alloc (.cells #[.slice (some ⟨wr.heap.size,0,none⟩) N N] 343)) w1.heap.size u5 (My k):=World.ownsRow.alloc (AdU hC3 (hB5.mono (by simp))) _
   have hW6:Tc (w5.alloc (.cells #[.slice (some ⟨wr.heap.size,0,none⟩) N N] 343)) Bb w5.heap.size wr.heap.size N (.slice pb2 (b.length -k) (cb -k)) s:=by
    have hba:=(Below.refl w5.heap.size w5).alloc (Qa1 _) (.cells #[.slice (some ⟨wr.heap.size,0,none⟩) N N] 343);refine⟨hT.below hba,heap_alloc_new w5 _,?_⟩;refine(hba.block Bb (by omega)).trans ?_;exact(hB5.block Bb (by first|omega|(rw[hsz4];omega)|(simp;omega))).trans hblk3
   have hB6:Below Bb w (w5.alloc (.cells #[.slice (some ⟨wr.heap.size,0,none⟩) N N] 343)):=(hBw.trans (hB5.mono (by first|omega|(rw[hsz4];omega)|(simp;omega)))).alloc (by omega) _
   have hltd:Bb<w5.heap.size:=by omega
   have hw6:w5.heap.size<(w5.alloc (.cells #[.slice (some ⟨wr.heap.size,0,none⟩) N N] 343)).heap.size:=by simp
   have hw16:w1.heap.size≤(w5.alloc (.cells #[.slice (some ⟨wr.heap.size,0,none⟩) N N] 343)).heap.size:=by omega
   clear hT hB5 hC3 hblk3 hBw hdist hcel2 hfz2 hblk2 hC hsz4;generalize w5.alloc (.cells #[.slice (some ⟨wr.heap.size,0,none⟩) N N] 343)=W6 at*;generalize w5.heap.size=Bd at*;generalize wr.heap.size=Bt at*;generalize a.length -k=mA at*;generalize b.length -k=mB at*
   go_loopw [5,10,11] (fun v5 v10 v11 wq=>∃(i j:Nat) (o:List (Int×Int)),v10=.int .i64 i∧v11=.int .i64 j∧WkI A Bl k M i j o∧M6 wq w1.heap.size v5 o∧Tc wq Bb Bd Bt N (.slice pb2 mB (cb -k)) s∧Below w1.heap.size W6 wq) (fun _ v10 v11 _=>(mA -(Lib.intOf v10).toNat)+(mB -(Lib.intOf v11).toNat))
   case atStart=>exact⟨0,0,_,rfl,rfl,hst,hC6,hW6,Below.refl _ _⟩
   case round=>
    clear hst hC6 hW6 hB;rename_i wr0;obtain⟨i,j,o,hi,hj,hI,hC,hW,hB⟩:=hrel;subst hi hj;obtain⟨_,hol,hi,hj⟩:=id hI;rw[lA]at hi;rw[lB]at hj;obtain⟨cd,cb0⟩:=hW.cells;have hBq:Below Bb w wr:=hB6.trans (hB.mono (by omega));have hA:=hA2 wr hBq;have hBB:=hB2 wr hBq;have hsz:=hB.size;clear hA2 hB2 hB6
    by_cases h1:i<mA
    ·by_cases h2:j<mB
     ·obtain⟨ba,oa,hpa,hba,ca1⟩:=hA.at_ i A[i] (Qa5 (by omega));obtain⟨bb,ob,hpb,hbb,cb1⟩:=hBB.at_ j Bl[j] (Qa5 (by omega));subst hpa hpb
      by_cases he:A[i]'(by omega)=Bl[j]'(by omega)
      ·have hnx:=hI.eq (by omega) (by omega) he;rw[he]at ca1;clear hA hBB hK hI he;generalize Bl[j]'(by omega)=y at ca1 cb1
       go_wp2_with fail
       go_region
       go_wp2_with (at_builtin;refine Anl w1.heap.size (p:=(k:Int)+(i:Int)) (k:=(k:Int)+(j:Int)) rfl rfl rfl (World.ownsRow.alloc (World.ownsRow.drew hC) _) rfl ?e0 ?e1 ?e2 ?e3 ?e4)
       case e0=>simp
       case e1=>simp
       case e2=>omega
       case e3=>simp;omega
       intro v2 w4 hown4 hg4;have hW4:=(hW.alloc (.cells #[.int .i64 ((k:Int)+(i:Int)),.int .i64 ((k:Int)+(j:Int))] 175)).drew.grown (World.ownsRow.drew (World.ownsRow.alloc hC _)) hg4;have hB4:=below_grow (hB.alloc (by omega) (.cells #[.int .i64 ((k:Int)+(i:Int)),.int .i64 ((k:Int)+(j:Int))] 175)).drew hg4 (fun i h=>(World.ownsRow.lt hC i h).1) hw16
       clear hg4 hC hW hB cd cb0 ca1 cb1 hba hbb
       go_wp2
       go_roundw
       case rel=>exact⟨i+1,j+1,_,by simp,by simp,hnx,hown4,hW4,hB4⟩
       case measure=>simp only[Lib.intOf];omega
      ·have hdn:=hI.down (by omega) (by omega) he;have hrt:=hI.right (by omega) (by omega) he
       have hab1:((A[i]'(by omega))==(Bl[j]'(by omega)))=false:=by simpa using he
       have hc1:=LV (i+1) j mA mB N Bt Bd Bb (some ⟨bb,ob,none⟩) (cb -k) s wr.drew (by omega) hj hm4 hn4 hN hW.drew.tb cd cb0 (by rw[hK (i+1) j (by omega) hj];have:=Qa A Bl (i+1) j;omega)
       have hc0:=LV i j mA mB N Bt Bd Bb (some ⟨bb,ob,none⟩) (cb -k) s wr.drew (by omega) hj hm4 hn4 hN hW.drew.tb cd cb0 (by rw[hK i j (by omega) hj];have:=Qa A Bl i j;omega)
       rw[hK (i+1) j (by omega) hj,show((i+1:Nat):Int)=(i:Int)+1 by omega]at hc1;rw[hK i j (by omega) hj]at hc0;have bt1:=Qa A Bl (i+1) j;have honce:True:=trivial;have bt0:=Qa A Bl i j;change(Tb0 A Bl (i+1) j+1=Tb0 A Bl i j→_)at hdn;change(¬Tb0 A Bl (i+1) j+1=Tb0 A Bl i j→_)at hrt;clear hA hBB hK hI he;generalize Tb0 A Bl (i+1) j=t1 at*
       generalize Tb0 A Bl i j=t0 at*;generalize A[i]'(by omega)=x at ca1 hab1;generalize Bl[j]'(by omega)=y at cb1 hab1
       by_cases hd:t1+1=t0
       ·have hdn:=hdn hd
        have hd1:((t1:Int)+1==(t0:Int))=true:=by simp;omega
        clear hrt hd
        go_wp2_with fail
        go_region
        go_wp2_with (first|(go_at_call 229;have hx:=honce;clear hx honce;refine hc1.mono ?_;rintro e w7 ⟨rfl,hw⟩;have hw:=hw.symm;subst hw)|(go_at_call 229;refine hc0.mono ?_;rintro e w7 ⟨rfl,hw⟩;have hw:=hw.symm;subst hw))
        go_roundw
        case rel=>exact⟨i+1,j,o,by simp,rfl,hdn,hC.drew,hW.drew,hB.drew⟩
        case measure=>simp only[Lib.intOf];omega
       ·have hrt:=hrt hd
        have hd1:((t1:Int)+1==(t0:Int))=false:=by simp;omega
        clear hdn hd
        go_wp2_with fail
        go_region
        go_wp2_with (first|(go_at_call 229;have hx:=honce;clear hx honce;refine hc1.mono ?_;rintro e w7 ⟨rfl,hw⟩;have hw:=hw.symm;subst hw)|(go_at_call 229;refine hc0.mono ?_;rintro e w7 ⟨rfl,hw⟩;have hw:=hw.symm;subst hw))
        go_roundw
        case rel=>exact⟨i,j+1,o,rfl,by simp,hrt,hC.drew,hW.drew,hB.drew⟩
        case measure=>simp only[Lib.intOf];omega
     ·have e2:j=mB:=by omega
      subst e2
      have hdn:WkI A Bl k M (i+1) j o:=by
       have:=hI;rw[←lB]at this⊢;exact this.Anp (by omega)
      have hc1:=LV (i+1) j mA j N Bt Bd Bb pb2 (cb -k) s wr.drew (by omega) hj hm4 hn4 hN hW.drew.tb cd cb0 (by rw[hK (i+1) j (by omega) hj];have:=Qa A Bl (i+1) j;omega)
      have hc0:=LV i j mA j N Bt Bd Bb pb2 (cb -k) s wr.drew (by omega) hj hm4 hn4 hN hW.drew.tb cd cb0 (by rw[hK i j (by omega) hj];have:=Qa A Bl i j;omega)
      rw[hK (i+1) j (by omega) hj,show((i+1:Nat):Int)=(i:Int)+1 by omega]at hc1;rw[hK i j (by omega) hj]at hc0;have bt1:=Qa A Bl (i+1) j;have honce:True:=trivial;have bt0:=Qa A Bl i j;have r1:=Xw A Bl (i+1);have r0:=Xw A Bl i;rw[lB]at r1 r0
      have hd1:(((Tb0 A Bl (i+1) j:Nat):Int)+1==((Tb0 A Bl i j:Nat):Int))=true:=by simp;omega
      clear hA hBB hK hI r1 r0;generalize Tb0 A Bl (i+1) j=t1 at*;generalize Tb0 A Bl i j=t0 at*
      go_wp2_with fail
      go_region
      go_wp2_with (first|(go_at_call 229;have hx:=honce;clear hx honce;refine hc1.mono ?_;rintro e w7 ⟨rfl,hw⟩;have hw:=hw.symm;subst hw)|(go_at_call 229;refine hc0.mono ?_;rintro e w7 ⟨rfl,hw⟩;have hw:=hw.symm;subst hw))
      go_roundw
      case rel=>exact⟨i+1,j,o,by simp,rfl,hdn,hC.drew,hW.drew,hB.drew⟩
      case measure=>simp only[Lib.intOf];omega
    ·by_cases h2:j<mB
     ·have e1:i=mA:=by omega
      subst e1
      have hnx:WkI A Bl k M i (j+1) o:=by
       have:=hI;rw[←lA]at this⊢;exact this.Ams (by omega)
      clear hI hK hA hBB
      go_wp2_with fail
      go_region
      go_wp2
      go_roundw
      case rel=>exact⟨i,j+1,o,rfl,by simp,hnx,hC.drew,hW.drew,hB.drew⟩
      case measure=>simp only[Lib.intOf];omega
     ·have e1:i=mA:=by omega
      have e2:j=mB:=by omega
      subst e1 e2
      have hfin:o=M:=by
       have:=hI;rw[←lA,←lB]at this;exact this.done
      subst hfin
      go_wp2
      go_ret
      exact⟨_,rfl,by rw[hM];exact Agx hC (by omega),by rw[hBb];exact hBq⟩
end Go.Proofs.Tryz
