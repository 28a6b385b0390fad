/- Maps whose keys are strings, seen as functions. -/
import Derived.Test.YtopngokkgogolaaGreatDoorFwD
import Derived.Test.YtopngokkgogolaaGreatDoorKS0
import Derived.Maps.StringElems
import Derived.StringKeys
set_option linter.unusedVariables false
set_option linter.unusedSimpArgs false
set_option linter.unusedSectionVars false
namespace Go.VS
open Go.RowKit Go Go.Maps
def gput{α:Type}(g:Bs→Option α)(k:Bs)(v:α):Bs→Option α:=fun x=>if x=k then some v else g x
def gdel{α:Type}(g:Bs→Option α)(k:Bs):Bs→Option α:=fun x=>if x=k then none else g x
structure Elt(P:Program)(et:TypeId)(α:Type) where
 lit:α→Lit
 val:α→Value
 ok:α→Prop
 inv:∀{v:Value} {a:α} {ps:List MemPlace},plainElem (H:=Unit) P et v=some (.lit (lit a),ps)→v=val a
 rd:∀{a:α},ok a→plainElem (H:=Unit) P et (val a)=some (.lit (lit a),[])
def Elt.str{P:Program}{et:TypeId}(h:P.underlying et=some .string):Elt P et Bs where
 lit:=.string
 val:=fun s=>.string ⟨s.toArray⟩
 ok:=fun s=>s.length≤maxLen
 inv:=fun{v a ps} hv=>by
  obtain⟨s,rfl,hz,_⟩:=plainElem_string_inv h hv;cases hz;simp
 rd:=fun{a} ha=>by
  have:=plainElem_string (H:=Unit) h (s:=⟨a.toArray⟩) (by simpa[ByteArray.size]using ha);simpa using this
def Elt.int{P:Program}{et:TypeId}(h:P.underlying et=some (.int .i64)):Elt P et Int where
 lit:=.int .i64
 val:=.int .i64
 ok:=fun n=>(Lit.int .i64 n).wf=true
 inv:=fun{v a ps} hv=>by
  obtain⟨c,rfl,hz,_⟩:=plainElem_int_inv h hv;cases hz;rfl
 rd:=fun{a} ha=>plainElem_int h ha
def Elt.bool{P:Program}{et:TypeId}(h:P.underlying et=some .bool):Elt P et Bool where
 lit:=.bool
 val:=.bool
 ok:=fun _=>True
 inv:=fun{v a ps} hv=>by
  unfold plainElem at hv;rw[h]at hv
  cases v<;>simp at hv
  rw[hv.1]
 rd:=fun{a} _=>plainElem_bool h a
section
variable{P:Program}{kt et:TypeId}{α:Type}{E:Elt P et α}{w:World}{b n:Nat}{g:Bs→Option α}{r:Nat}{xs:List Bs}{D:DataW Unit}{left:Lit→Bool}{cnt:Nat}
def CJ(P:Program)(kt:TypeId){et:TypeId}{α:Type}(E:Elt P et α)(w:World)(b n:Nat)(g:Bs→Option α):Prop:=
 ∃D:DataW Unit,w.ownsMap P kt (plainElem P et) b n D∧∀k:Bs,k.length≤maxLen→Maps.has D (.string k)=(g k).isSome∧∀v,g k=some v→∀z,D.atKey (.string k) z=.lit (E.lit v)
theorem CJ.made(E:Elt P et α)(w:World):CJ P kt E (w.alloc (.map #[] 0)) w.heap.size 0 (fun _=>none):=
 ⟨_,World.ownsMap_made w P kt _,fun k _=>⟨rfl,fun v h=>nomatch h⟩⟩
theorem CJ.of_block(h:CJ P kt E w b n g){w':World}(he:w'.heap[b]?=w.heap[b]?):CJ P kt E w' b n g:=by
 obtain⟨D,⟨es,clock,hb,F,hs,hD⟩,hg⟩:=h;exact⟨D,⟨es,clock,he.trans hb,F,hs,hD⟩,hg⟩
theorem CJ.lt(h:CJ P kt E w b n g):b<w.heap.size:=by
 obtain⟨D,ho,_⟩:=h;exact ho.lt
theorem CJ.alloc(h:CJ P kt E w b n g)(o:Obj):CJ P kt E (w.alloc o) b n g:=h.of_block (Below.heap_alloc w o b h.lt)
theorem CJ.below(h:CJ P kt E w b n g){w':World}{m:Nat}(hb:Below m w w')(hm:b<m):CJ P kt E w' b n g:=h.of_block (hb.block b hm)
theorem CJ.congr(h:CJ P kt E w b n g){g':Bs→Option α}(hg:∀k,g' k=g k):CJ P kt E w b n g':=by
 rw[show g'=g from funext hg];exact h
theorem CJ.mono(h:CJ P kt E w b n g){m:Nat}(hm:n≤m):CJ P kt E w b m g:=by
 obtain⟨D,ho,hg⟩:=h;exact⟨D,ho.mono hm,hg⟩
theorem QI(hk:P.underlying kt=some .string){k:Bs}(hl:k.length≤maxLen):keyOf P kt (.string ⟨k.toArray⟩)=some (.string k):=by
 have:=WideMaps.keyOf_string_mk hk (s:=⟨k.toArray⟩) (by simpa[ByteArray.size]using hl);simpa using this
theorem CJ.look(h:CJ P kt E w b n g)(hk:P.underlying kt=some .string){t:TypeId}(ht:P.underlying t=some (.map kt et)){z:α}(hz:(zeroValue et).run P w=.ok (E.val z) w)(hzo:E.ok z){k:Bs}(hl:k.length≤maxLen):
  (Instr.lookup t (.map (some b)) (.string ⟨k.toArray⟩) true).run P w=.ok (.tuple #[E.val ((g k).getD z),.bool (g k).isSome]) w:=by
 obtain⟨D,ho,hg⟩:=h;obtain⟨v,ps,hrun,hv⟩:=ho.look_ok (string_keyed hk) ht hz (E.rd hzo) (QI hk hl);obtain⟨h1,h2⟩:=hg k hl;rw[hrun,h1]
 congr 4
 cases hgk:g k with
 |some a=>rw[h2 a hgk]at hv;exact E.inv hv
 |none=>
  rw[hgk]at h1;obtain⟨es,clock,hb,F,hs,hD⟩:=ho;subst hD
  rcases Maps.fit_look true (string_keyed hk) ht hz hb F (QI hk hl)with⟨_,_,hat⟩|⟨e0,y,_,_,_,_,hat,_⟩
  ·rw[hat]at hv;exact E.inv hv
  ·rw[Maps.has_true_of_atKey hat]at h1;cases h1
theorem CJ.Aos(h:CJ P kt E w b n g)(hk:P.underlying kt=some .string){t:TypeId}(ht:P.underlying t=some (.map kt et)){z:α}(hz:(zeroValue et).run P w=.ok (E.val z) w)(hzo:E.ok z){k:Bs}(hl:k.length≤maxLen):
  (Instr.lookup t (.map (some b)) (.string ⟨k.toArray⟩) false).run P w=.ok (E.val ((g k).getD z)) w:=by
 obtain⟨D,ho,hg⟩:=h;obtain⟨v,ps,hrun,hv⟩:=ho.lookup (string_keyed hk) ht hz (E.rd hzo) (QI hk hl);obtain⟨h1,h2⟩:=hg k hl;rw[hrun]
 congr 1
 cases hgk:g k with
 |some a=>rw[h2 a hgk]at hv;exact E.inv hv
 |none=>
  rw[hgk]at h1;obtain⟨es,clock,hb,F,hs,hD⟩:=ho;subst hD
  rcases Maps.fit_look true (string_keyed hk) ht hz hb F (QI hk hl)with⟨_,_,hat⟩|⟨e0,y,_,_,_,_,hat,_⟩
  ·rw[hat]at hv;exact E.inv hv
  ·rw[Maps.has_true_of_atKey hat]at h1;cases h1
theorem Afb(hk:P.underlying kt=some .string){k:Bs}(hl:k.length≤maxLen):WideAt.IsKeyLit (.string k):=(string_keyed hk).key (QI hk hl)
theorem CJ.put(h:CJ P kt E w b n g)(hk:P.underlying kt=some .string){t:TypeId}(ht:P.underlying t=some (.map kt et))(hn:n<maxLen){k:Bs}(hl:k.length≤maxLen){v:α}(hv:E.ok v):
  ∃w',(Instr.mapUpdate t (.map (some b)) (.string ⟨k.toArray⟩) (E.val v)).run P w=.ok () w'∧CJ P kt E w' b (n+1) (gput g k v)∧w.grownBy w' (some b):=by
 obtain⟨D,ho,hg⟩:=h;obtain⟨w',hrun,ho',hgr⟩:=ho.update (string_keyed hk) ht hn (QI hk hl) (E.rd hv);refine⟨w',hrun,⟨_,ho',fun x hx=>?_⟩,hgr⟩;unfold gput
 by_cases hxk:x=k
 ·subst hxk;rw[if_pos rfl];exact⟨by rw[Maps.has_put_same ho.isMap (Afb hk hl)];rfl,fun u hu z=>by cases hu;exact Maps.atKey_put_same ho.isMap (Afb hk hl) _ _⟩
 ·rw[if_neg hxk]
  have hne:(Lit.string x)≠.string k:=fun e=>hxk (by cases e;rfl)
  obtain⟨h1,h2⟩:=hg x hx;exact⟨by rw[Maps.has_put_other hne,h1],fun u hu z=>by rw[Maps.atKey_put_other hne];exact h2 u hu z⟩
theorem CJ.del(h:CJ P kt E w b n g)(hk:P.underlying kt=some .string){t:TypeId}(ht:P.underlying t=some (.map kt et)){k:Bs}(hl:k.length≤maxLen)(ty:TypeId):
  ∃w',(Builtin.delete_ #[t,kt] ty #[.map (some b),.string ⟨k.toArray⟩]).run P w=.ok (.tuple #[]) w'∧CJ P kt E w' b n (gdel g k)∧w.grownBy w' (some b):=by
 obtain⟨D,ho,hg⟩:=h;obtain⟨w',hrun,ho',hgr⟩:=ho.drop (string_keyed hk) ht (QI hk hl) ty;refine⟨w',hrun,⟨_,ho',fun x hx=>?_⟩,hgr.grown⟩;unfold gdel
 by_cases hxk:x=k
 ·subst hxk;rw[if_pos rfl];exact⟨Maps.has_del_same,fun u hu=>nomatch hu⟩
 ·rw[if_neg hxk]
  have hne:(Lit.string x)≠.string k:=fun e=>hxk (by cases e;rfl)
  obtain⟨h1,h2⟩:=hg x hx;exact⟨by rw[Maps.has_del_other hne,h1],fun u hu z=>by rw[Maps.atKey_del_other hne];exact h2 u hu z⟩
theorem Akc(hk:P.underlying kt=some .string){key:Value}{kl:Lit}(h:keyOf P kt key=some kl):∃s:ByteArray,key=.string s∧kl=.string s.data.toList∧s.size≤maxLen:=by
 cases key<;>simp[keyOf,hk,mapKey]at h
 rename_i s;refine⟨s,rfl,?_,?_⟩
 ·have:=h.2;exact this.symm
 ·exact h.1
def AcM(P:Program)(kt:TypeId){et:TypeId}{α:Type}(E:Elt P et α)(w:World)(b r n:Nat)(g:Bs→Option α)(xs:List Bs)(D:DataW Unit)(left:Lit→Bool)(cnt:Nat):Prop:=
 w.ranges P kt (plainElem P et) b r n D left cnt∧(∀k:Bs,k.length≤maxLen→Maps.has D (.string k)=(g k).isSome∧∀v,g k=some v→∀z,D.atKey (.string k) z=.lit (E.lit v))∧
 (∀k∈xs,left (.string k)=true)∧(∀kl,left kl=true→Maps.has D kl=true)∧∀k:Bs,k.length≤maxLen→left (.string k)=true→k∈xs
theorem AcM.done(h:AcM P kt E w b r n g xs D left cnt)(hl:∀kl,left kl=false):xs=[]:=by
 obtain⟨_,_,h3,_,_⟩:=h
 cases xs with
 |nil=>rfl
 |cons x l=>have:=h3 x (List.mem_cons_self ..);rw[hl]at this;cases this
theorem AcM.start(h:CJ P kt E w b n g){xs:List Bs}(hx:∀k,k∈xs↔(g k).isSome=true)(hxl:∀k∈xs,k.length≤maxLen):∃D,w.ownsMap P kt (plainElem P et) b n D∧
  ∀{w':World} {r cnt:Nat},w'.ranges P kt (plainElem P et) b r n D (Maps.has D) cnt→AcM P kt E w' b r n g xs D (Maps.has D) cnt:=by
 obtain⟨D,ho,hg⟩:=h;exact⟨D,ho,fun hr=>⟨hr,hg,fun k hk=>by rw[(hg k (hxl k hk)).1];exact(hx k).1 hk,fun _ h=>h,fun k hk hl=>(hx k).2 (by rw[←(hg k hk).1];exact hl)⟩⟩
theorem AcM.step(h:AcM P kt E w b r n g xs D left cnt)(hk:P.underlying kt=some .string)(hnd:xs.Nodup){key v:Value}{kl:Lit}{y:DataW Unit×List MemPlace}{w':World}{cnt':Nat}(hkey:keyOf P kt key=some kl)(hl:left kl=true)(hR:plainElem P et v=some y)
  (hat:∀zd,D.atKey kl zd=y.1) (hr:w'.ranges P kt (plainElem P et) b r n D (fun z=>left z&&!z.sameKey kl) cnt') (hlit:∀a:α,∀z:DataW Unit×List MemPlace,plainElem P et (E.val a)=some z→z.1=.lit (E.lit a)) (hval:∀v y,plainElem (H:=Unit) P et v=some y→∃a,v=E.val a) (hinj:∀a c:α,E.lit a=E.lit c→a=c):
  ∃k a,key=.string ⟨k.toArray⟩∧k∈xs∧k.length≤maxLen∧g k=some a∧v=E.val a∧AcM P kt E w' b r n g (xs.erase k) D (fun z=>left z&&!z.sameKey kl) cnt':=by
 obtain⟨h1,h2,h3,h4,h5⟩:=h;obtain⟨s,rfl,rfl,hs⟩:=Akc hk hkey
 have hs:s.data.toList.length≤maxLen:=by rw[Array.length_toList];exact hs
 obtain⟨a,rfl⟩:=hval v y hR;have hsm:=h4 _ hl;rw[(h2 _ hs).1]at hsm;obtain⟨c,hc⟩:=Option.isSome_iff_exists.1 hsm;have h6:=(h2 _ hs).2 c hc y.1;rw[hat,hlit a y hR]at h6
 have h7:E.lit a=E.lit c:=by first|exact DataW.lit.inj h6|exact(DataW.lit.inj h6).symm
 obtain rfl:=hinj a c h7;have hself:(Lit.string s.data.toList).sameKey (.string s.data.toList)=true:=WideAt.sameKey_self ((string_keyed hk).key hkey);refine⟨s.data.toList,a,by simp,h5 _ hs hl,hs,hc,rfl,hr,h2,fun k hk2=>?_,fun kl2 hk2=>h4 _ (by simp at hk2;exact hk2.1),fun k hk2 hl2=>?_⟩
 ·have hm:=List.mem_of_mem_erase hk2;show(left (.string k)&&!(Lit.string k).sameKey (.string s.data.toList))=true;rw[h3 k hm,Bool.true_and]
  have:k≠s.data.toList:=fun e=>by
   subst e;exact absurd hk2 (List.Nodup.not_mem_erase hnd)
  cases hsk:(Lit.string k).sameKey (.string s.data.toList)
  ·rfl
  ·exact absurd (by have:=WideAt.sameKey_eq hsk;cases this;rfl) this
 ·simp only[Bool.and_eq_true,Bool.not_eq_true']at hl2
  have hne:k≠s.data.toList:=fun e=>by
   subst e;rw[hself]at hl2;cases hl2.2
  exact(List.mem_erase_of_ne hne).2 (h5 k hk2 hl2.1)
theorem VJ{m:Nat}{w0 w w':World}(h:Below m w0 w)(hg:w.grownBy w' (some b))(hb:m≤b)(hm:m≤w0.heap.size):Below m w0 w':=
 ⟨hg.os.trans h.os,hg.tape.trans h.tape,hg.output.trans h.output,Nat.le_trans h.size hg.size,fun i hi=>by
  have hs:=h.size
  exact(hg.block i (by omega) (by intro e;cases e;omega)).trans (h.block i hi)⟩
end
structure Aan(w:World)(a:Option Addr)(l:List (Bs×Bs)):Prop where
 at_:∀(k:Nat) (x:Bs×Bs),l[k]?=some x→∃b off,a=some ⟨b,off,none⟩∧b<w.heap.size∧w.cell? ⟨b,off+k*2,none⟩=some (.string ⟨x.1.toArray⟩)∧w.cell? ⟨b,off+k*2+1,none⟩=some (.string ⟨x.2.toArray⟩)
theorem Aan.below{w w':World}{a:Option Addr}{l:List (Bs×Bs)}(h:Aan w a l)(hb:Below w.heap.size w w'):Aan w' a l:=
 ⟨fun k x hx=>by
  obtain⟨b,off,h1,h2,h3,h4⟩:=h.at_ k x hx
  exact⟨b,off,h1,Nat.lt_of_lt_of_le h2 hb.size,(hb.cell (p:=⟨b,off+k*2,none⟩) h2).trans h3,(hb.cell (p:=⟨b,off+k*2+1,none⟩) h2).trans h4⟩⟩
end Go.VS
