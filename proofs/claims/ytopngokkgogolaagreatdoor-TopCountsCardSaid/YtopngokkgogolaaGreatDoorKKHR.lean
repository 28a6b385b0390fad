/- container/heap over the queue of walk: Pop. -/
import Derived.Test.YtopngokkgogolaaGreatDoorKKHQ
set_option linter.unusedVariables false
set_option linter.unusedSimpArgs false
namespace Go.Proofs.Tryz
open Go.Shelf Go.RowKit Go.VS Go Go.Sort
set_option maxRecDepth 100000 in
set_option maxHeartbeats 2000000 in
theorem AgA(ds:List Int)(pa:Option Addr)(ca B q:Nat)(w:World)(v:Value)(l:List Int)(h:HAt ds pa ca B q w v l)(hl:0<l.length):
  Calls prog 75 #[.iface 158 (.pointer (some ⟨q,0,none⟩))] w fun e w'=>∃(x:Int) (v':Value) (l':List Int),e=.returned (.iface 3 (.int .i64 x))∧HAt ds pa ca B q w' v' l'∧List.Perm (x::l') l∧QF q v w w'∧v'.ownBlock=v.ownBlock:=by
 have hmp:=fun W=>Anx ⟨q,0,none⟩ W
 have hml:=fun W=>Alv ⟨q,0,none⟩ W
 have hms:=fun W=>AdK ⟨q,0,none⟩ W
 have hna:=h.na;have hlen:=QL w B q _ v l h.qa
 obtain⟨n,hn⟩:∃n,l.length=n+1:=⟨l.length -1,by omega⟩
 rw[hn]at hlen;have hsw:=OS w B q _ v l h.qa 0 n (by omega) (by omega);have hsp:=swap_perm (l:=l) (i:=0) (j:=n) (by omega) (by omega);generalize(l.set 0 (l.getD n 0)).set n (l.getD 0 0)=m at hsw hsp
 have hc:((n+1:Nat):Int) -1=(n:Int):=by omega
 have hc2:((n+1:Nat):Int)=(n:Int)+1:=by omega
 rw[hc2]at hlen
 go_enter func75,ntmps75
 go_wp2_with (first|(go_at_call 74;refine hlen.mono ?_;rintro e w1 ⟨rfl,rfl⟩)|(go_at_call 377;refine hsw.mono ?_;rintro e w2 ⟨rfl,hq2,hf2⟩;have h2:=h.of hq2 hf2 hsp)|(go_at_call 142;refine(Adu ds pa ca B q _ v m n h2 (by rw[hsp.length_eq];omega)).mono ?_;rintro e w3 ⟨⟨r3,rfl⟩,m3,h3,hp3,hf3⟩;obtain⟨m4,x4,rfl⟩:∃m4 x4,m3=m4++[x4]:=⟨m3.dropLast,m3.getLast (by rintro rfl;have:=hp3.length_eq;have:=hsp.length_eq;simp at*;omega),(List.dropLast_concat_getLast _).symm⟩)|(go_at_call 375;refine(Ad3 _ B q _ v m4 x4 h3.qa (by have:=h3.na;simp at this;omega)).mono ?_;rintro e w4 ⟨rfl,v4,hq4,hf4,hb4⟩))
 go_ret
 have hpm:List.Perm (x4::m4) l:=((List.perm_append_singleton x4 m4).symm.trans hp3).trans hsp;exact⟨x4,v4,m4,rfl,h3.next hq4 hf4 (fun y hy=>h3.ra y (List.mem_append_left _ hy)) (by have:=h3.na;simp at this;omega),hpm,(hf2.trans hf3 (.inl rfl)).trans hf4 (.inl rfl),hb4⟩
end Go.Proofs.Tryz
