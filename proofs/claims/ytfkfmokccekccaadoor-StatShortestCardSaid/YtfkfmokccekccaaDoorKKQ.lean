/- scan.Quote, walked. -/
import Derived.Test.YtfkfmokccekccaaDoorKKB
import Derived.Test.YtfkfmokccekccaaDoorKSm0
import Derived.Test.YtfkfmokccekccaaDoorFwD
set_option linter.unusedVariables false
set_option linter.unusedSimpArgs false
namespace Go.Proofs.Tryd
open Go.Shelf Go.RowKit Go.VS
set_option maxHeartbeats 1000000 in
set_option maxRecDepth 100000 in
theorem RS(c:Int)(w:World):Calls prog 78 #[.int .u8 c] w fun e w'=>e=.returned (.bool (Ql c))∧w'=w:=by
 go_enter func78,ntmps78
 go_wp2
 all_goals go_ret
 all_goals (refine⟨?_,rfl⟩;first|(simp[Ql, *];done)|(simp[Ql, *];omega))
theorem T4(s:ByteArray)(k:Nat)(h:k<s.size):s.data.toList.take (k+1)=s.data.toList.take k++[s[k]]:=by
 rw[List.take_add_one,List.getElem?_eq_getElem (by simpa using h)]
 rfl
theorem XD{s:ByteArray}{k:Nat}(h:k<s.size):s.size -(Lib.intOf (Value.int IntKind.i64 ((k:Int)+1))).toNat<s.size -(Lib.intOf (Value.int IntKind.i64 (k:Int))).toNat:=by
 simp only[Lib.intOf]
 omega
theorem Mt:∀l:List UInt8,(l.flatMap Fe).length≤4*l.length
 |[]=>Nat.le_refl _
 |b::l=>by
  have h:=Mt l
  have hb:(Fe b).length≤4:=by
   unfold Fe
   repeat' split
   all_goals simp
  rw[List.flatMap_cons,List.length_append,List.length_cons]
  omega
theorem Vd(hEsc:Dj (Pg.of prog))(b:UInt8)(w:World)(hw:Late (Pg.of prog) w):Calls prog 80 #[.int .u8 ((b.toNat:Nat):Int)] w fun e w'=>e=.returned (.string ⟨(Fe b).toArray⟩)∧Below w.heap.size w w':=by
 refine(Fn.calls (fun _ h=>h) (t:=.int .u8) (u:=.str) rfl rfl (hEsc b) func80 (by kernel_rfl) hw).mono ?_
 rintro e w' ⟨r,d,hr,he,hb⟩
 cases hr
 exact⟨he,hb⟩
theorem BQ{T e:TypeId}{B b:Nat}{p:Value}{bs:List Value}{w w':World}(h:Lib.BuilderAt T e B b p bs w)(hb:Below w.heap.size w w'):Lib.BuilderAt T e B b p bs w':=by
 have hlt:=h.lt
 obtain⟨hB,v,hbk,hown,hne⟩:=h
 exact⟨hB,v,(hb.block b hlt).trans hbk,hown.kept (row:=none) ⟨hb.os,hb.tape,hb.output,hb.size,fun k hk _=>hb.block k hk⟩ (by cases v.ownBlock<;>simp),hne⟩
theorem Jp(s:ByteArray)(hs:s.size≤17592186044416)(k:Nat)(h:k<s.size):(Lib.byteCells (34::(s.data.toList.take k).flatMap Fe)).length+ByteArray.size ⟨(Fe s[k]).toArray⟩≤140737488355328:=by
 rw[Lib.byteCells_length]
 have h1:=Mt (s.data.toList.take k)
 have h2:=Mt [s[k]]
 have h3:(s.data.toList.take k).length≤k:=by rw[List.length_take];omega
 have h4:ByteArray.size ⟨(Fe s[k]).toArray⟩=(Fe s[k]).length:=rfl
 rw[List.flatMap_cons,List.flatMap_nil,List.append_nil,List.length_singleton]at h2
 rw[h4,List.length_cons]
 omega
theorem AaR(s:ByteArray)(hs:s.size≤17592186044416):(Lib.byteCells (34::s.data.toList.flatMap Fe)).length+1≤140737488355328:=by
 rw[Lib.byteCells_length]
 have h1:=Mt s.data.toList
 have h3:s.data.toList.length=s.size:=rfl
 rw[List.length_cons]
 omega
theorem VD{s:ByteArray}(hb:(!s.toList.isEmpty&&s.data.toList.all LD)=true):Value.string s=.string ⟨(DV s.data.toList).toArray⟩:=by
 have hq:DV s.data.toList=s.data.toList:=by
  unfold DV
  rw[if_pos]
  rw[ByteArray.toList_eq]at hb
  exact hb
 rw[hq]
theorem Xs{s:ByteArray}(hb:(!s.toList.isEmpty&&s.data.toList.all LD)=false):DV s.data.toList=34::(s.data.toList.flatMap Fe++[34]):=by
 unfold DV
 rw[if_neg]
 rw[ByteArray.toList_eq]at hb
 intro h
 rw[hb]at h
 cases h
theorem SR(s:ByteArray)(k:Nat)(h:k<s.size):Lib.byteCells (34::(s.data.toList.take (k+1)).flatMap Fe)=Lib.byteCells (34::(s.data.toList.take k).flatMap Fe)++Lib.strCells ⟨(Fe s[k]).toArray⟩:=by
 rw[T4 s k h,List.flatMap_append,List.flatMap_cons,List.flatMap_nil,List.append_nil,←List.cons_append,Lib.byteCells_append]
 rfl
theorem U7(l:List UInt8):Lib.byteCells (34::(l.flatMap Fe++[34]))=Lib.byteCells (34::l.flatMap Fe)++[Value.int .u8 34]:=by
 rw[←List.cons_append,Lib.byteCells_append]
 rfl
set_option maxHeartbeats 4000000 in
set_option maxRecDepth 1000000 in
theorem Me(hEsc:Dj (Pg.of prog))(s:ByteArray)(hs:s.size≤17592186044416)(w:World)(hw:Late (Pg.of prog) w):
  Calls prog 49 #[.string s] w fun e w'=>e=.returned (.string ⟨(DV s.data.toList).toArray⟩)∧Below w.heap.size w w':=by
 go_enter func49,ntmps49
 go_wp2
 go_loop [3,11] (fun t i=>∃k:Nat,k≤s.size∧i=.int .i64 k∧t=.bool (!s.toList.isEmpty&&(s.data.toList.take k).all LD)) (fun _ i=>s.size -(Lib.intOf i).toNat)
 case atStart=>
  refine⟨0,by omega,rfl,?_⟩
  rw[List.take_zero,List.all_nil,Bool.and_true]
 case round=>
  obtain⟨k,hk,hi,ht⟩:=hrel
  subst hi
  subst ht
  generalize hb:(!s.toList.isEmpty&&(s.data.toList.take k).all LD)=b
  by_cases hks:k<s.size
  ·cases b with
   |false=>
    go_wp2
    refine⟨⟨k+1,by omega,by simp,?_⟩,XD hks⟩
    rw[T4 s k hks,List.all_append,←Bool.and_assoc,hb,Bool.false_and]
   |true=>
    go_wp2_with (go_at_call 78;refine(RS _ _).mono ?_)
    refine⟨⟨k+1,by omega,by simp,?_⟩,XD hks⟩
    rw[T4 s k hks,List.all_append,←Bool.and_assoc,hb,Bool.true_and]
    simp[LD]
  ·have hke:k=s.size:=by omega
   subst hke
   have hal:s.data.toList.take s.size=s.data.toList:=List.take_of_length_le (by simp)
   rw[hal]at hb
   cases b with
   |true=>
    go_wp2
    go_ret
    refine⟨?_,Below.refl _ _⟩
    rw[←VD hb]
    rfl
   |false=>
    have hlate:Late (Pg.of prog) w:=hw
    go_wp2_with (go_at_call 79;refine(UA (Lib.fresh_isBuilder 101 5 w) (by simp) ?_).mono ?_)
    rintro e W1 ⟨rfl⟩ h1 b1
    go_wp2
    go_loopw [27] (fun i wr=>∃k:Nat,k≤s.size∧i=.int .i64 k∧Lib.IsBuilder 101 5 w.heap.size w.heap.size (Lib.byteCells (34::(s.data.toList.take k).flatMap Fe)) wr∧Below w.heap.size w wr) (fun i _=>s.size -(Lib.intOf i).toNat)
    case atStart=>exact⟨0,by omega,rfl,Or.inr h1,((Below.refl _ w).alloc (Nat.le_refl _) _).trans b1⟩
    case round=>
     obtain⟨k,hk,hi,hI,hbw⟩:=hrel
     subst hi
     have hsz:w.heap.size≤wr.heap.size:=hbw.size
     have hlate':Late (Pg.of prog) wr:=hlate.of hbw
     by_cases hks:k<s.size
     ·go_wp2_with (go_at_call 80;refine(Vd hEsc _ _ hlate').mono ?_)
      rintro e W2 ⟨rfl,b2⟩
      have hI2:Lib.IsBuilder 101 5 w.heap.size w.heap.size (Lib.byteCells (34::(s.data.toList.take k).flatMap Fe)) W2:=hI.imp (fun h=>BQ h b2) (fun h=>BQ h b2)
      have bw2:Below w.heap.size w W2:=hbw.trans (b2.mono hsz)
      have hsz2:w.heap.size≤W2.heap.size:=bw2.size
      go_wp2_with (go_at_call 48;refine(Po hI2 ?_ hsz2).mono ?_)
      ·exact Jp s hs k hks
      rintro e W3 ⟨rfl,h3,b3⟩
      go_wp2
      go_roundw
      case rel=>
       refine⟨k+1,by omega,by simp,Or.inr ?_,bw2.trans b3⟩
       rw[SR s k hks]
       exact h3
      case measure=>exact XD hks
     ·have hke:k=s.size:=by omega
      subst hke
      rw[hal]at hI
      go_wp2_with (go_at_call 79;refine(UA hI ?_ hsz).mono ?_)
      ·exact AaR s hs
      rintro e W3 ⟨rfl,h3,b3⟩
      have h4:Lib.BuilderAt 101 5 w.heap.size w.heap.size (.pointer (some ⟨w.heap.size,0,none⟩)) (Lib.byteCells (34::(s.data.toList.flatMap Fe++[34]))) W3:=by
       rw[U7]
       exact h3
      have bw3:=hbw.trans b3
      go_wp2_with (go_at_call 53;refine(Tryd.Builder_String_any w.heap.size w.heap.size _ _ (Or.inr h4) bw3.size).mono ?_)
      rintro e W4 ⟨rfl,b4⟩
      go_wp2
      go_ret
      refine⟨?_,bw3.trans b4⟩
      rw[Xs hb]
      rfl
end Go.Proofs.Tryd
