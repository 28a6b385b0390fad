/- shortest.walk, walked. -/
import Derived.Test.YtopngokkgogolaaGreatDoorKKDI
import Derived.Test.YtopngokkgogolaaGreatDoorKKPR
set_option linter.unusedVariables false
set_option linter.unusedSimpArgs false
open List renaming drop_eq_getElem_cons → Qa0, getElem?_eq_getElem → Qa2, drop_of_length_le → Qa3
open Nat renaming zero_le → Qa1
namespace Go.VS
def Fo:List Int→List Int→Nat
 |x::a,y::b=>if x=y then Fo a b+1 else 0
 |[],_=>0
 |_::_,[]=>0
theorem AhH:∀(a b:List Int),Fo a b≤a.length∧Fo a b≤b.length
 |x::a,y::b=>by
  have:=AhH a b;unfold Fo;split
  ·simp only[List.length_cons];omega
  ·exact⟨Qa1 _,Qa1 _⟩
 |[],_=>⟨Qa1 _,Qa1 _⟩
 |_::_,[]=>⟨Qa1 _,Qa1 _⟩
def BgI(a b:List Int)(k:Nat):Prop:=Fo a b=k+Fo (a.drop k) (b.drop k)∧k≤a.length∧k≤b.length
theorem BgI.zero(a b:List Int):BgI a b 0:=⟨by rw[List.drop_zero,List.drop_zero];omega,Qa1 _,Qa1 _⟩
theorem BgI.next{a b:List Int}{k:Nat}(h:BgI a b k)(ha:k<a.length)(hb:k<b.length)(he:a[k]=b[k]):BgI a b (k+1):=by
 obtain⟨h1,_,_⟩:=h;rw[Qa0 ha,Qa0 hb,Fo,if_pos he]at h1;exact⟨by omega,by omega,by omega⟩
theorem BgI.stop{a b:List Int}{k:Nat}(h:BgI a b k)(hs:(ha:k<a.length)→(hb:k<b.length)→a[k]≠b[k]):k=Fo a b:=by
 obtain⟨h1,h2,h3⟩:=h
 have:Fo (a.drop k) (b.drop k)=0:=by
  by_cases ha:k<a.length
  ·by_cases hb:k<b.length
   ·rw[Qa0 ha,Qa0 hb,Fo,if_neg (hs ha hb)]
   ·rw[Qa3 (l:=b) (by omega)]
    cases a.drop k<;>rfl
  ·rw[Qa3 (l:=a) (by omega)]
   cases b.drop k<;>rfl
 omega
end Go.VS
namespace Go.Proofs.Tryz
open Go.Shelf Go.RowKit Go.VS Go Go.Sort
set_option maxHeartbeats 4000000 in
set_option maxRecDepth 1000000 in
theorem Aax(a b:List Int)(pa pb:Option Addr)(ca cb:Nat)(w:World)(la:a.length≤4096)(lb:b.length≤4096)(ha:Mj w pa a)(hb:Mj w pb b):
  Calls prog 227 #[.slice pa a.length ca,.slice pb b.length cb] w fun e w'=>e=.returned (.int .i64 ((Fo a b:Nat):Int))∧Below w.heap.size w w':=by
 go_enter func227,ntmps227
 go_wp2
 go_loopw [5] (fun i wr=>∃k:Nat,i=.int .i64 k∧BgI a b k∧Below w.heap.size w wr) (fun i _=>a.length -(Lib.intOf i).toNat)
 case atStart=>exact⟨0,rfl,BgI.zero a b,Below.refl _ _⟩
 case round=>
  obtain⟨k,hi,hI,hB⟩:=hrel;subst hi;have hka:=hI.2.1;have hkb:=hI.2.2
  by_cases h1:k<a.length
  ·by_cases h2:k<b.length
   ·have hnx:=hI.next h1 h2;have hst:=hI.stop;obtain⟨ba,oa,rfl,hba,ca0⟩:=ha.at_ k a[k] (Qa2 h1);obtain⟨bb,ob,rfl,hbb,cb0⟩:=hb.at_ k b[k] (Qa2 h2);have ca1:=(hB.cell (p:=⟨ba,oa+k,none⟩) hba).trans ca0;have cb1:=(hB.cell (p:=⟨bb,ob+k,none⟩) hbb).trans cb0
    by_cases he:a[k]=b[k]
    ·have hnx:=hnx he;rw[he]at ca1;clear hst ca0 cb0 ha hb hI;generalize b[k]=y at ca1 cb1
     go_wp2_with fail
     go_region
     go_wp2
     go_roundw
     case rel=>exact⟨k+1,by simp,hnx,hB.drew⟩
     case measure=>simp only[Lib.intOf];omega
    ·have hst:EqN k (Fo a b):=hst fun _ _=>he
     have hab1:(a[k]==b[k])=false:=by simpa using he
     clear hnx ca0 cb0 ha hb hI;generalize a[k]=x at ca1 hab1;generalize b[k]=y at cb1 hab1
     go_wp2_with fail
     go_region
     go_wp2
     go_ret
     exact⟨by rw[←show k=_ from hst];rfl,hB.drew⟩
   ·have hst:EqN k (Fo a b):=hI.stop fun _ h=>absurd h h2
    clear hI
    go_wp2_with fail
    go_region
    go_wp2
    go_ret
    exact⟨by rw[←show k=_ from hst];rfl,hB.drew⟩
  ·have hst:EqN k (Fo a b):=hI.stop fun h=>absurd h h1
   clear hI
   go_wp2_with fail
   go_region
   go_wp2
   go_ret
   exact⟨by rw[←show k=_ from hst];rfl,hB.drew⟩
set_option maxHeartbeats 1000000 in
theorem LV(i j la lb N Bt Bd Bb:Nat)(X:Option Addr)(cc:Nat)(s:List Nat)(W:World)(hi:i≤la)(hj:j≤lb)(hla:la≤4096)(hlb:lb≤4096)(hN:EqN N ((la+1)*(lb+1)))(hT:N4 W N Bt s)
  (hd:W.cell? ⟨Bd,0,none⟩=some (.slice (some ⟨Bt,0,none⟩) N N)) (hb:W.cell? ⟨Bb,0,none⟩=some (.slice X lb cc)) (hs:s.getD (i*(lb+1)+j) 0≤8192):
  Calls prog 229 #[.int .i64 i,.int .i64 j,.pointer (some ⟨Bd,0,none⟩),.pointer (some ⟨Bb,0,none⟩)] W fun e w'=>e=.returned (.int .i64 ((s.getD (i*(lb+1)+j) 0:Nat):Int))∧w'=W:=by
 obtain⟨Q,hQ⟩:∃Q,EqN Q (i*(lb+1)):=⟨_,rfl⟩
 have hQN:Q+(lb+1)≤N:=by
  rw[show Q=_ from hQ,show N=_ from hN,←Nat.succ_mul];exact Nat.mul_le_mul (by omega) (Nat.le_refl _)
 have hN2:N≤4097*4097:=by rw[show N=_ from hN];exact Nat.mul_le_mul (by omega) (by omega)
 rw[←show Q=_ from hQ]at hs⊢
 have hq0:wrap64 ((i:Int)*((lb:Int)+1))=((Q:Nat):Int):=by
  rw[show(i:Int)*((lb:Int)+1)=((Q:Nat):Int)by rw[show Q=_ from hQ];push_cast;rfl]
  exact AmU (by omega) (by omega)
 obtain⟨cv,cf⟩:=hT.cell (j:=Q+j) (by omega);clear hT hN hQ;generalize s.getD (Q+j) 0=v at*
 go_enter func229,ntmps229
 go_wp2
 go_ret
 exact⟨rfl,rfl⟩
end Go.Proofs.Tryz
