/- WriteString of strings.Builder, with what it leaves as it is. -/
import Derived.Test.YtfkfmokccekccaaDoorKKB
set_option linter.unusedVariables false
set_option linter.unusedSimpArgs false
namespace Go.Proofs.Tryd
open Go.Shelf Go.RowKit
structure UX(b:Nat)(w w':World):Prop where
 fr:∀k,k≠b→w'.heap[k]?=w.heap[k]?
 snd:w'.cell? ⟨b,1,none⟩=w.cell? ⟨b,1,none⟩
set_option maxHeartbeats 1000000 in
set_option maxRecDepth 100000 in
theorem SS{B b:Nat}{bs:List Value}{w:World}(h:Lib.IsBuilder 101 5 B b bs w):
  Calls prog 77 #[.pointer (some ⟨b,0,none⟩)] w fun e w'=>e=.returned (.tuple #[])∧Lib.BuilderAt 101 5 B b (.pointer (some ⟨b,0,none⟩)) bs w'∧Below B w w'∧UX b w w':=by
 obtain⟨j,hj,hs⟩:=Option.map_eq_some_iff.1 (show(prog.info? 101).map (·.size)=some 2 by kernel_rfl)
 have u1:=run_underlying underlying99
 have u2:=run_underlying underlying167
 rcases h with h|h
 ·have h0:=h.cell0
  have h2:=h.frozen0
  go_enter func77,ntmps77
  go_wp2
  rw[Lib.run_to_unsafe w ⟨b,0,none⟩ underlying99 underlying167 hj (by rw[hs];decide) h.shape (Nat.zero_lt_succ 1)]
  simp only[Result.andThen]
  rw[Oper.upon_value]
  go_wp2
  rw[run_callFunc_extern func114 (by kernel_rfl) (by kernel_rfl) (by kernel_rfl) (e:=Extern.AbiNoEscape.same) (by kernel_rfl),Lib.run_noEscape]
  simp only[Result.andThen]
  rw[Oper.upon_value]
  go_wp2
  rw[Lib.run_from_unsafe w ⟨b,0,none⟩ underlying167 underlying99 hj h.shape (by kernel_rfl)]
  simp only[Result.andThen]
  rw[Oper.upon_value]
  go_wp2
  go_end0
  exact⟨rfl,h.used _,(Below.refl B w).setCell (p:=⟨b,0,none⟩) h.1 _,⟨fun k hk=>Below.heap_setCell _ _ _ _ hk,World.cell?_setCell_other _ _ _ _ (by intro hh;have:=congrArg Addr.off hh;simp at this)⟩⟩
 ·have h0:=h.cell0
  go_enter func77,ntmps77
  go_wp2
  rw[Lib.run_neq_ptr_same w _ underlying99 hj]
  go_wp2
  go_end0
  exact⟨rfl,h,Below.refl B w,⟨fun _ _=>rfl,rfl⟩⟩
set_option maxHeartbeats 2000000 in
set_option maxRecDepth 100000 in
theorem Tv{B b:Nat}{bs:List Value}{s:ByteArray}{w:World}(h:Lib.IsBuilder 101 5 B b bs w)(hl:bs.length+s.size≤140737488355328)(hB:B≤w.heap.size):
  Calls prog 48 #[.pointer (some ⟨b,0,none⟩),.string s] w fun e w'=>e=.returned (.tuple #[.int .i64 s.size,.nilIface])∧Lib.BuilderAt 101 5 B b (.pointer (some ⟨b,0,none⟩)) (bs++Lib.strCells s) w'∧Below B w w'∧∀k,k<w.heap.size→k≠b→(∀v,w.cell? ⟨b,1,none⟩=some v→v.ownBlock≠some k)→w'.heap[k]?=w.heap[k]?:=by
 obtain⟨i0,hi,hz0,hz1,hz2⟩:=info_parts (P:=prog) (e:=5) (z:=.int .u8 0) (size:=1) (bytes:=1) (by kernel_rfl)
 have e1:=M1
 have u1:=run_underlying underlying54
 have u2:=run_underlying underlying9
 go_enter func48,ntmps48
 go_wp2_with (go_at_fn 77;refine(SS h).mono ?_)
 rintro e w1 ⟨rfl,⟨hBb,v,hv,own,ne⟩,hb1,hot⟩
 have sz:=hb1.size
 have lt:b<w1.heap.size:=by
  rcases Nat.lt_or_ge b w1.heap.size with h'|h'
  ·exact h'
  ·rw[Array.getElem?_eq_none h']at hv;cases hv
 have c0:w1.cell? ⟨b,0,none⟩=some (.pointer (some ⟨b,0,none⟩)):=by rw[Lib.cell_of_heap hv];rfl
 have c1:w1.cell? ⟨b,1,none⟩=some v:=by rw[Lib.cell_of_heap hv];rfl
 go_wp2_with (at_builtin;refine Lib.wpList_append_own_string _ rfl _ _ 54 9 rfl B 5 i0 underlying54 underlying9 hi hz0 hz1 hz2 _ _ _ rfl own s rfl ?a3 ?a4 ?a5 ?_)
 case a3=>unfold maxLen;omega
 case a4=>omega
 case a5=>omega
 intro v2 w2 own2 gr _
 have hv2:w2.heap[b]?=some (.cells #[.pointer (some ⟨b,0,none⟩),v] 101 (0,0)):=by
  rw[gr.block b lt (fun e=>ne e.symm)]
  exact hv
 have d0:w2.cell? ⟨b,0,none⟩=some (.pointer (some ⟨b,0,none⟩)):=by rw[Lib.cell_of_heap hv2];rfl
 have d1:w2.cell? ⟨b,1,none⟩=some v:=by rw[Lib.cell_of_heap hv2];rfl
 have f1:w2.frozen? ⟨b,1,none⟩=false:=Lib.frozen_of_heap hv2 1
 obtain⟨ao,n',cap,rfl⟩:∃ao n' cap,v2=.slice ao n' cap:=by
  rcases own2.2 with⟨hv,_⟩|⟨g,cap,cur,hv,_⟩
  ·exact⟨none,0,0,hv⟩
  ·exact⟨_,_,_,hv⟩
 go_wp2
 go_ret2
 refine⟨rfl,Lib.BuilderAt.put (T:=101) (e:=5) hBb hv2 (bs':=bs++Lib.strCells s) (by simpa[Lib.strCells_length]using own2) (by decide),?_⟩
 refine⟨(hb1.grown gr (by omega) (fun k hk=>(own.lt k hk).1)).setCell (p:=⟨b,1,none⟩) hBb _,fun k hk hkb hown=>?_⟩
 have hk1:k<w1.heap.size:=by omega
 exact(Below.heap_setCell _ _ _ _ hkb).trans ((gr.block k hk1 (fun e=>hown v (hot.snd.symm.trans c1) e.symm)).trans (hot.fr k hkb))
end Go.Proofs.Tryd
