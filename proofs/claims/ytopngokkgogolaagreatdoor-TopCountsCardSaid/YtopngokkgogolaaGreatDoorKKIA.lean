/- strings.Index at a letter, as a contract. -/
import Derived.Test.YtopngokkgogolaaGreatDoorKKShelf
import Derived.Test.YtopngokkgogolaaGreatDoorKS0
import Derived.Test.YtopngokkgogolaaGreatDoorFwD
set_option linter.unusedVariables false
set_option linter.unusedSimpArgs false
open List renaming count_cons_of_ne → Qa0
namespace Go.Proofs.Tryz
open Go.Shelf Go.RowKit Go.VS
theorem OJ:∀s:Bs,(Lib.indexByte s 97<0→s.count 97=0)∧(0≤Lib.indexByte s 97→Lib.indexByte s 97<(s.length:Int)∧(s.take ((Lib.indexByte s 97).toNat+1)).count 97=1)∧-1≤Lib.indexByte s 97
 |[]=>⟨fun _=>rfl,fun h=>absurd h (by decide),by decide⟩
 |b::s=>by
  obtain⟨h1,h2,h3⟩:=OJ s;rw[Lib.indexByte]
  by_cases hb:b=97
  ·subst hb;simp only[beq_self_eq_true,if_true];refine⟨fun h=>absurd h (by decide),fun _=>⟨by rw[List.length_cons];omega,?_⟩,by decide⟩
   rw[show(0:Int).toNat+1=1 from rfl,List.take_succ_cons,List.take_zero];rfl
  ·rw[if_neg (by simpa using hb)]
   by_cases hi:Lib.indexByte s 97=-1
   ·rw[if_pos (by simpa using hi)];refine⟨fun _=>?_,fun h=>absurd h (by decide),by decide⟩;rw[Qa0 hb];exact h1 (by omega)
   ·rw[if_neg (by simpa using hi)]
    have i0:0≤Lib.indexByte s 97:=by omega
    obtain⟨i1,i2⟩:=h2 i0;refine⟨fun h=>by omega,fun _=>⟨by rw[List.length_cons];omega,?_⟩,by omega⟩
    rw[show(Lib.indexByte s 97+1).toNat+1=(Lib.indexByte s 97).toNat+1+1 by omega,List.take_succ_cons,Qa0 hb,i2]
theorem Agg(kp:Value→Prop):SU ⟨prog,kp⟩:=by
 intro s hs
 refine Fn.MM (S:=GV) rfl rfl (s,([97]:Bs)) (Lib.indexByte s 97) () ⟨(OJ s).1,(OJ s).2.1⟩ fun f fn hf hn=>?_
 have hfi:f=222:=E3 (P:=⟨prog,kp⟩) (by kernel_rfl) hf hn;subst hfi;have hfe:=Option.some.inj (hf.symm.trans func222);subst hfe;refine⟨by kernel_rfl,by kernel_rfl,fun w hw=>?_⟩
 exact(Tryz.strings_Index_one ⟨s.toArray⟩ 97 w).mono fun e w' ⟨he,hw'⟩=>⟨he,by rw[hw'];exact Below.refl _ _⟩
end Go.Proofs.Tryz
