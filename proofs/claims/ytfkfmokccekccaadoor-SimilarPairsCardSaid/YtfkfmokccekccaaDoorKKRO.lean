/- similar.Renames: the two comparisons and the two sorts. -/
import Derived.Test.YtfkfmokccekccaaDoorKKRN
import Derived.Test.YtfkfmokccekccaaDoorKKShelf
import Derived.Deep.RegionHeld3
import Derived.Shelf.SlSortCmp.NoneTotal
set_option linter.unusedVariables false
set_option linter.unusedSimpArgs false
namespace Go.Proofs.Tryd
open Go.Shelf Go.RowKit Go.VS Go Go.Maps Go.Sort Go.Lib
theorem Ad6:∀x y:Bs,Lib.compareBytes x y=0↔x=y
 |[],[]=>⟨fun _=>rfl,fun _=>rfl⟩
 |[],_::_=>⟨fun h=>(by cases h),fun h=>(by cases h)⟩
 |_::_,[]=>⟨fun h=>(by cases h),fun h=>(by cases h)⟩
 |a::x,b::y=>by
  have ih:=Ad6 x y
  unfold Lib.compareBytes
  by_cases h1:a<b
  ·have:a≠b:=fun e=>by rw[e]at h1;exact absurd h1 (UInt8.lt_irrefl _)
   simp[h1,this]
  ·by_cases h2:b<a
   ·have:a≠b:=fun e=>by rw[e]at h2;exact absurd h2 (UInt8.lt_irrefl _)
    simp[h1,h2,this]
   ·have h3:a=b:=by
     by_cases e:a=b
     ·exact e
     ·rcases UInt8.lt_or_lt_of_ne e with h|h
      ·exact absurd h h1
      ·exact absurd h h2
    subst h3
    simp[h1,ih]
def Aeo(x y:Aba):Int:=or3 (Lib.compareInt y.2.2 x.2.2) (Lib.compareBytes x.1 y.1) (Lib.compareBytes x.2.1 y.2.1)
theorem AfH(a b:Int):(Lib.compareInt a b=0↔a=b)∧(Lib.compareInt a b<0↔a<b):=by
 unfold Lib.compareInt
 by_cases h1:a<b
 ·simp[h1];omega
 ·by_cases h2:a>b
  ·simp[h1,h2];omega
  ·simp[h1,h2];omega
theorem Agh(b c:Int):or3 0 b c=if b≠0 then b else c:=by unfold or3;simp
theorem ltR(x y:Aba):ltOf Aeo x y=Acj x y:=by
 unfold ltOf Aeo
 have c1:=AcO x.1 y.1
 have c2:=AcO x.2.1 y.2.1
 have z1:=Ad6 x.1 y.1
 obtain⟨e1,e2⟩:=AfH y.2.2 x.2.2
 unfold Acj Ac3
 by_cases h:y.2.2=x.2.2
 ·have hb:decide (y.2.2<x.2.2)=false:=decide_eq_false (by omega)
  have hs:decide (x.2.2=y.2.2)=true:=decide_eq_true h.symm
  rw[e1.2 h,Agh,hb,hs,Bool.false_or,Bool.true_and]
  by_cases h2:x.1=y.1
  ·rw[if_neg (fun k=>k (z1.2 h2)),c2,decide_eq_true h2,h2,Abo,Bool.false_or,Bool.true_and]
  ·rw[if_pos (fun k=>h2 (z1.1 k)),c1,decide_eq_false h2,Bool.false_and,Bool.or_false]
 ·unfold or3
  rw[if_pos (fun k=>h (e1.1 k)),decide_eq_false (show¬x.2.2=y.2.2 from fun k=>h k.symm),Bool.false_and,Bool.or_false]
  exact decide_eq_decide.2 e2
theorem AdC{x y z:Aba}(h1:Acj x y=true)(h2:Acj y z=true):Acj x z=true:=by
 unfold Acj Ac3 at*
 simp only[Bool.or_eq_true,Bool.and_eq_true,decide_eq_true_eq]at*
 rcases h1 with h1|⟨e1,h1⟩
 ·rcases h2 with h2|⟨e2,h2⟩
  ·exact .inl (by omega)
  ·exact .inl (by omega)
 ·rcases h2 with h2|⟨e2,h2⟩
  ·exact .inl (by omega)
  ·refine .inr ⟨by omega,?_⟩
   rcases h1 with h1|⟨f1,h1⟩
   ·rcases h2 with h2|⟨f2,h2⟩
    ·exact .inl (AbN h1 h2)
    ·exact .inl (by rw[←f2];exact h1)
   ·rcases h2 with h2|⟨f2,h2⟩
    ·exact .inl (by rw[f1];exact h2)
    ·exact .inr ⟨f1.trans f2,AbN h1 h2⟩
theorem Ahv:SWO (ltOf Aeo) where
 irrefl x:=by
  rw[ltR]
  cases h:Acj x x with
  |false=>rfl
  |true=>exact(Afa h h).elim
 trans x y z h1 h2:=by
  rw[ltR]at*
  exact AdC h1 h2
 ntrans x y z h1 h2:=by
  rw[ltR]at*
  cases h3:Acj x z with
  |false=>rfl
  |true=>
   by_cases e:x.1=y.1∧x.2.1=y.2.1
   ·by_cases s:x.2.2=y.2.2
    ·have:x=y:=Prod.ext e.1 (Prod.ext e.2 s)
     rw[this,h2]at h3;cases h3
    ·have s1:¬y.2.2<x.2.2:=fun k=>by
      unfold Acj at h1
      rw[decide_eq_true k]at h1
      cases h1
     have h5:=Afb h3
     have h6:Acj y z=true:=by unfold Acj;rw[decide_eq_true (show z.2.2<y.2.2 by omega)];rfl
     rw[h6]at h2;cases h2
   ·rcases AdB e with h4|h4
    ·rw[h4]at h1;cases h1
    ·rw[AdC h4 h3]at h2;cases h2
theorem Acw(w:World)(cs:Array Value)(e:TypeId)(b j:Nat)(u:Value)(hb:b=w.heap.size)(hu:cs[j]?=some u):(w.alloc (.cells cs e)).cell? ⟨b,j,none⟩=some u:=by
 subst hb
 exact(Am (heap_alloc_new w (.cells cs e)) j).trans hu
theorem Ahx(w:World)(cs:Array Value)(e:TypeId)(b j:Nat)(u:Value)(hb:b=w.heap.size)(hu:cs[j]?=some u):(w.alloc (.cells cs e)).drew.cell? ⟨b,j,none⟩=some u:=Acw w cs e b j u hb hu
set_option maxHeartbeats 4000000 in
set_option maxRecDepth 1000000 in
theorem Afe(x y:Aba)(W:World):Calls prog 22 #[AeB x,AeB y] W fun e w'=>e=.returned (.int .i64 (Aeo x y))∧∃q os',w'=grow (W.drewN q) os':=by
 obtain⟨xa,xb,xs⟩:=x
 obtain⟨ya,yb,ys⟩:=y
 unfold AeB Aeo
 dsimp only
 have hc1:∀W',Calls prog 41 #[.int .i64 ys,.int .i64 xs] W' fun e w'=>e=.returned (.int .i64 (Lib.compareInt ys xs))∧w'=W':=fun W'=>Tryd.cmp_Compare_int ys xs W'
 have hc2:∀W',Calls prog 24 #[.string ⟨xa.toArray⟩,.string ⟨ya.toArray⟩] W' fun e w'=>e=.returned (.int .i64 (Lib.compareBytes xa ya))∧w'=W':=fun W'=>by
  have:=Tryd.strings_Compare ⟨xa.toArray⟩ ⟨ya.toArray⟩ W'
  simpa using this
 have hc3:∀W',Calls prog 24 #[.string ⟨xb.toArray⟩,.string ⟨yb.toArray⟩] W' fun e w'=>e=.returned (.int .i64 (Lib.compareBytes xb yb))∧w'=W':=fun W'=>by
  have:=Tryd.strings_Compare ⟨xb.toArray⟩ ⟨yb.toArray⟩ W'
  simpa using this
 generalize Lib.compareInt ys xs=r1 at hc1⊢
 generalize Lib.compareBytes xa ya=r2 at hc2⊢
 generalize Lib.compareBytes xb yb=r3 at hc3⊢
 have hor:=fun(g:Nat) (W':World) h0 h1 h2=>Agi r1 r2 r3 g W' h0 h1 h2
 generalize or3 r1 r2 r3=r at hor⊢
 go_enter func22,ntmps22
 go_wp2_with fail
 go_region_held3 (fun w'=>w'.cell? ⟨W.heap.size,0,none⟩=some (.string ⟨xa.toArray⟩)∧w'.cell? ⟨W.heap.size,1,none⟩=some (.string ⟨xb.toArray⟩)∧w'.cell? ⟨W.heap.size,2,none⟩=some (.int .i64 xs)∧w'.cell? ⟨W.heap.size+1,0,none⟩=some (.string ⟨ya.toArray⟩)∧w'.cell? ⟨W.heap.size+1,1,none⟩=some (.string ⟨yb.toArray⟩)∧w'.cell? ⟨W.heap.size+1,2,none⟩=some (.int .i64 ys))
  ((go_split_ands;refine⟨?_,?_,?_,?_,?_,?_⟩<;>first|assumption|(simp;done)|(refine(Below.cell ((Below.refl _ _).alloc (Nat.le_refl _) _) ?_).trans ?_<;>first|assumption|(simp;done)|(simp;omega)|fail "none")))
  (first
   |(go_at_call 41;refine(hc1 _).mono ?_;rintro e w3 ⟨rfl,rfl⟩)
   |(go_at_call 24;refine(hc2 _).mono ?_;rintro e w3 ⟨rfl,rfl⟩)
   |(go_at_call 24;refine(hc3 _).mono ?_;rintro e w3 ⟨rfl,rfl⟩)
   |(go_at_call 40;refine(hor _ _ (Ahx _ _ _ _ _ _ (by simp) rfl) (Ahx _ _ _ _ _ _ (by simp) rfl) (Ahx _ _ _ _ _ _ (by simp) rfl)).mono ?_;rintro e w3 ⟨rfl,rfl⟩)
   |fail "no arm")
 go_wp2
 go_ret
 exact⟨rfl,1,_,by rw[alloc_eq_grow,alloc_eq_grow,alloc_eq_grow,grow_grow,grow_grow];rfl⟩
end Go.Proofs.Tryd
