/- Count, HasSuffix, TrimSuffix and SplitAfter at a line feed, as contracts. -/
import Derived.Test.YtopngokkgogolaaGreatDoorKKShelf
import Derived.Test.YtopngokkgogolaaGreatDoorKS0
import Derived.Test.YtopngokkgogolaaGreatDoorFwD
import Derived.WalkSmall
import Derived.Lib.IndexBytes
import Derived.Lib.SplitLaws
set_option linter.unusedVariables false
set_option linter.unusedSimpArgs false
open List renaming mem_cons_of_mem → Qa0, mem_cons_self → Qa1, length_map → Qa3, take_of_length_le → Qa4, count_cons_self → Qa6
open Option.some renaming inj → Qa2
open Nat renaming le_refl → Qa5
namespace Go.Proofs.Tryz
open Go.Shelf Go.RowKit Go.VS
theorem Adp(kp:Value→Prop):G8 ⟨prog,kp⟩:=by
 intro s
 refine Fn.MM (S:=DC) rfl rfl (s,[10]) ((s.count 10:Nat):Int) () rfl fun f fn hf hn=>?_
 have hfi:f=186:=E3 (P:=⟨prog,kp⟩) (by kernel_rfl) hf hn;subst hfi;have hfe:=Qa2 (hf.symm.trans func186);subst hfe;refine⟨by kernel_rfl,by kernel_rfl,fun w hw=>?_⟩
 exact(Tryz.strings_Count_one ⟨s.toArray⟩ 10 w).mono fun e w' ⟨he,hw'⟩=>⟨he,by rw[hw'];exact Below.refl _ _⟩
theorem Acs(kp:Value→Prop):FK ⟨prog,kp⟩:=by
 intro s hs
 refine Fn.MM (S:=CQ) rfl rfl (s,[10]) (Qp s) () rfl fun f fn hf hn=>?_
 have hfi:f=177:=E3 (P:=⟨prog,kp⟩) (by kernel_rfl) hf hn;subst hfi;have hfe:=Qa2 (hf.symm.trans func177);subst hfe;refine⟨by kernel_rfl,by kernel_rfl,fun w hw=>?_⟩
 exact(Tryz.strings_HasSuffix ⟨s.toArray⟩ ⟨#[10]⟩ w (by simp[ByteArray.size];omega)).mono fun e w' ⟨he,hw'⟩=>⟨he,by rw[hw'];exact Below.refl _ _⟩
theorem Ag8(kp:Value→Prop):JJ ⟨prog,kp⟩:=by
 intro s hs
 refine Fn.MM (S:=Dm) rfl rfl (s,[10]) (AeU s) () rfl fun f fn hf hn=>?_
 have hfi:f=184:=E3 (P:=⟨prog,kp⟩) (by kernel_rfl) hf hn;subst hfi;have hfe:=Qa2 (hf.symm.trans func184);subst hfe;refine⟨by kernel_rfl,by kernel_rfl,fun w hw=>?_⟩
 exact(Tryz.strings_TrimSuffix ⟨s.toArray⟩ ⟨#[10]⟩ w (by simp[ByteArray.size];omega)).mono fun e w' ⟨he,hw'⟩=>⟨he,by rw[hw'];exact Below.refl _ _⟩
theorem RQ:∀(l r:Bs),(∀b∈l,b≠10)→Lib.indexByte (l++10::r) 10=(l.length:Int)
 |[],r,h=>by simp[Lib.indexByte]
 |b::l,r,h=>by
  rw[List.cons_append,Lib.indexByte,if_neg (by simpa using h b (Qa1 ..)),RQ l r fun c hc=>h c (Qa0 _ hc)];rw[if_neg (by simp)];simp
theorem ZH:∀(l:Bs),(∀b∈l,b≠10)→Lib.indexByte l 10=-1
 |[],h=>rfl
 |b::l,h=>by
  rw[Lib.indexByte,if_neg (by simpa using h b (Qa1 ..)),ZH l fun c hc=>h c (Qa0 _ hc)];rfl
theorem Ace:∀(l acc r:Bs),(∀b∈l,b≠10)→saN acc (l++10::r)=(acc++(l++[10]))::saN [] r
 |[],acc,r,h=>by rw[List.nil_append,saN,if_pos rfl];rfl
 |b::l,acc,r,h=>by
  rw[List.cons_append,saN,if_neg (h b (Qa1 ..)),Ace l _ r fun c hc=>h c (Qa0 _ hc)];simp
theorem AiU:∀(l acc:Bs),(∀b∈l,b≠10)→saN acc l=[acc++l]
 |[],acc,h=>by simp[saN]
 |b::l,acc,h=>by
  rw[saN,if_neg (h b (Qa1 ..)),AiU l _ fun c hc=>h c (Qa0 _ hc)];simp
theorem Aln:∀s:Bs,(∀b∈s,b≠10)∨∃l r,s=l++10::r∧∀b∈l,b≠10
 |[]=>.inl (by simp)
 |b::s=>by
  by_cases hb:b=10
  ·subst hb;exact .inr ⟨[],s,rfl,by simp⟩
  ·rcases Aln s with h|⟨l,r,rfl,h⟩
   ·refine .inl fun c hc=>?_
    rcases List.mem_cons.1 hc with rfl|hc
    ·exact hb
    ·exact h c hc
   ·refine .inr ⟨b::l,r,rfl,fun c hc=>?_⟩
    rcases List.mem_cons.1 hc with rfl|hc
    ·exact hb
    ·exact h c hc
theorem Ag0:∀(k:Nat) (s:Bs),s.count 10=k→Lib.splitK [10] 1 k s=saF s:=by
 intro k
 induction k with
 |zero=>
  intro s h
  have h:∀b∈s,b≠10:=fun b hb e=>by subst e;exact List.count_eq_zero.1 h hb
  unfold saF;rw[AiU s [] h];rfl
 |succ k ih=>
  intro s h
  rcases Aln s with hn|⟨l,r,rfl,hl⟩
  ·rw[List.count_eq_zero.2 fun hb=>hn 10 hb rfl]at h;cases h
  ·have e1:Lib.index (l++10::r) [10]=(l.length:Int):=by rw[Lib.index_one,RQ l r hl]
   have hc:r.count 10=k:=by
    rw[List.count_append,Qa6,List.count_eq_zero.2 fun hb=>hl 10 hb rfl]at h;omega
   unfold saF;rw[Ace l [] r hl,Lib.splitK,e1,if_neg (by simp)]
   have e2:((l.length:Int)).toNat=l.length:=by omega
   rw[e2]
   have e3:List.take (l.length+1) (l++10::r)=l++[10]:=by
    rw[show l++10::r=(l++[10])++r by simp,List.take_append_of_le_length (by simp),Qa4 (by simp)]
   have e4:List.drop (l.length+([10]:Bs).length) (l++10::r)=r:=by
    rw[show l++10::r=(l++[10])++r by simp,show l.length+([10]:Bs).length=(l++[10]).length by simp,List.drop_left]
   rw[e3,e4,ih r hc];rfl
theorem Acd{C:Ctx}{w:World}:∀(l:List ByteArray),RVs C w ((l.map (·.data.toList)).map (BT.str.enc .leaf)).flatten (l.map Value.string) []
 |[]=>.nil
 |s::l=>by
  have h:=Acd (C:=C) (w:=w) l
  have e:(⟨s.data.toList.toArray⟩:ByteArray)=s:=by cases s;simp
  have h1:RV C w (.lit (.string ⟨s.data.toList.toArray⟩)) (.string s) []:=by rw[e];exact .lit _ rfl
  exact .cons _ _ [] _ _ [] h1 h
theorem X7(kp:Value→Prop):Ei ⟨prog,kp⟩:=by
 intro s hs
 refine Fn.Amb (ps:=[.val false .str .leaf,.val false .str .leaf]) (t:=.str) (tt:=.node .own .leaf) rfl rfl (s,[10]) (saF s) () rfl fun f fn hf hn=>?_
 have hfi:f=119:=E3 (P:=⟨prog,kp⟩) (by kernel_rfl) hf hn;subst hfi;have hfe:=Qa2 (hf.symm.trans func119);subst hfe;refine⟨by kernel_rfl,by kernel_rfl,fun w hw=>?_⟩;obtain⟨m,hm⟩:=hw.good.ml 0 (by kernel_rfl);have hcl:=List.count_le_length (a:=(10:UInt8)) (l:=s)
 have ecnt:Lib.countB ⟨s.toArray⟩ ⟨#[10]⟩=s.count 10:=by
  show Lib.count _ [10]=_;rw[Lib.count_one]
 have hsz:ByteArray.size ⟨s.toArray⟩=s.length:=by simp[ByteArray.size]
 have c:=Tryz.strings_genSplit ⟨s.toArray⟩ ⟨#[10]⟩ 1 (-1) (s.count 10+1) m w (by rw[hsz];omega) hm (Qa5 1) (Qa5 1) (by decide) (by decide) (by rw[if_pos (by decide),ecnt,hsz];omega)
 rw[Nat.add_sub_cancel]at c;have hd:=Lib.splitB_data ⟨#[10]⟩ 1 (s.count 10) ⟨s.toArray⟩;generalize hB:Lib.splitB ⟨#[10]⟩ 1 (s.count 10) ⟨s.toArray⟩=B at c hd
 have hd:B.map (·.data.toList)=saF s:=by rw[hd];exact Ag0 _ s rfl
 have hBl:B.length=(saF s).length:=by rw[←hd,Qa3]
 have hlen:(saF s).length=s.count 10+1:=by
  have:∀(s acc:Bs),(saN acc s).length=s.count 10+1:=by
   intro s
   induction s with
   |nil=>intro acc;rfl
   |cons b r ih=>
    intro acc;rw[saN]
    by_cases hb:b=10
    ·subst hb;rw[if_pos rfl,List.length_cons,ih,Qa6]
    ·rw[if_neg hb,ih,List.count_cons_of_ne (by simpa using hb)]
  exact this s []
 have hcells:Lib.cellsOf B (s.count 10+1)=(B.map Value.string).toArray:=by
  have:s.count 10+1=B.length:=by omega
  rw[this];exact Lib.cellsOf_full _
 rw[hcells]at c;show Calls prog 119 #[.string ⟨s.toArray⟩,.string ⟨#[10]⟩] w _
 go_enter func119,ntmps119
 go_wp2_with (go_at_call 179;refine c.mono ?_)
 go_ret
 refine⟨(Below.refl _ w).alloc (Qa5 _) _,_,[w.heap.size],fun _=>False,rfl,?_,by simp,fun b hb=>?_,fun _ h=>h.elim⟩
 ·have hr:=Acd (C:=hctx (⟨prog,kp⟩:Pg).toProgram (fun _=>False)) (w:=w.alloc (.cells (B.map Value.string).toArray 9)) B;rw[hd]at hr
  have hl2:((saF s).map (BT.str.enc .leaf)).length=s.count 10+1:=by rw[Qa3,hlen]
  have key:=RV.own (C:=hctx (⟨prog,kp⟩:Pg).toProgram (fun _=>False)) (w:=w.alloc (.cells (B.map Value.string).toArray 9)) 1 ((saF s).map (BT.str.enc .leaf)) w.heap.size 0 (s.count 10+1) (B.map Value.string).toArray 9 [] (heap_alloc_new _ _) (by simp;omega) (by omega) (by unfold maxLen;omega)
   (fun x hx=>by obtain⟨y,_,rfl⟩:=List.mem_map.1 hx;rfl) (by
    rw[List.drop_zero,Qa4 (by simp;omega)]
    simpa using hr)
  rw[Qa3,hlen]at key;exact RVs.one key
 ·rw[List.mem_singleton.1 hb];exact⟨Qa5 _,by simp,fun h=>h⟩
end Go.Proofs.Tryz
