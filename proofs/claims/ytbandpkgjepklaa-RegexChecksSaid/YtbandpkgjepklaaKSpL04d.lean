/- Check and Weight at lists that are spoilt. -/
import Derived.Test.YtbandpkgjepklaaKSpL04
set_option linter.unusedVariables false
set_option linter.unusedSimpArgs false
namespace Go.VS
variable {P : Pg}
open Classical in
noncomputable def wE (l : List Node) : Int × Int := if Aad l then ((wts l).getD (l.length - 1) 0, 0) else (0, 2)
open Classical in
noncomputable def cE (l : List Node) : Int := if Aad l then 0 else 2
theorem AlY {l : List Node} {d : Int × Int} (h1 : Aad l → d = ((wts l).getD (l.length - 1) 0, 0)) (h2 : ¬ Aad l → d = (0, 2)) : d = wE l := by
 unfold wE
 split
 ·rename_i h; exact h1 h
 ·rename_i h; exact h2 h
theorem AlX {l : List Node} {d : Int} (h1 : Aad l → d = 0) (h2 : ¬ Aad l → d = 2) : d = cE l := by
 unfold cE
 split
 ·rename_i h; exact h1 h
 ·rename_i h; exact h2 h
structure AlM (l : List Node) : Prop where
 kb : KB l
 len : l.length ≤ 1000000
theorem AfT.at (h : AfT P) {l : List Node} (hf : AlM l) {K : Int × Int → Unit → Prop} (hk : K (wE l) ()) : Fn P Uo Adl l K :=
 (h l hf.kb (by have := hf.len; omega)).to fun (d : Int × Int) _ hd => by
  have := AlY hd.1 hd.2
  subst this
  exact hk
theorem AlD.at (h : AlD P) {l : List Node} (hf : AlM l) {K : Int × Int → Unit → Prop} (hk : K (wE l) ()) : Fn P Up Alw l K :=
 (h l hf.kb (by have := hf.len; omega)).to fun (d : Int × Int) _ hd => by
  have := AlY hd.1 hd.2
  subst this
  exact hk
theorem Ab6.atE (h : Ab6 P) {l : List Node} (hf : AlM l) {K : Int → Unit → Prop} (hk : K (cE l) ()) : Fn P QV AbF l K :=
 (h l hf.kb (by have := hf.len; omega)).to fun (d : Int) _ hd => by
  have := AlX hd.1 hd.2
  subst this
  exact hk
theorem Agm.atE (h : Agm P) {l : List Node} (hf : AlM l) {K : Int → Unit → Prop} (hk : K (cE l) ()) : Fn P Su Adt l K :=
 (h l hf.kb (by have := hf.len; omega)).to fun (d : Int) _ hd => by
  have := AlX hd.1 hd.2
  subst this
  exact hk
theorem AlT (s : Bs) (i : Nat) : ((Dy s).1.getD i Ak).2.2.2.2.length ≤ 1000 := by
 by_cases h0 : (Dy s).2 = 0
 ·have hpe : Dy s = ((Dy s).1, 0) := by rw [← h0]
  generalize (Dy s).1 = l at hpe ⊢
  unfold Dy at hpe
  split at hpe
  ·cases hpe
  rename_i hs
  have hg := C7 s 51 0 0 [] (Nat.zero_le _)
  split at hpe
  ·cases hpe; simp [Ak]
  rename_i k b l1 he
  rw [he] at hg
  have hg : Grow s 0 [] 0 k b l1 := hg
  split at hpe
  ·cases hpe
  cases hpe
  rcases Nat.lt_or_ge i l.length with h1 | h1
  ·have := (hg.ok i (Nat.zero_le _) h1).2
   omega
  ·have : l.getD i Ak = Ak := by simp [List.getD_eq_getElem?_getD, List.getElem?_eq_none h1]
   rw [this]
   simp
 ·have hl : (Dy s).1 = [] := by
   generalize hq : Dy s = q at h0 ⊢
   unfold Dy at hq
   split at hq
   ·subst hq; rfl
   ·split at hq
    ·subst hq; rfl
    ·split at hq
     ·subst hq; rfl
     ·subst hq; exact absurd rfl h0
  rw [hl]
  simp
theorem AlK {l : List Node} {i : Nat} {n : Node} (h : ∀ j, (l.getD j Ak).2.2.2.2.length ≤ 1000) (hl : l.length ≤ 1000000) (hn : n.2.2.2.2.length ≤ 2000) : AlM (l.set i n) := by
 refine ⟨fun j => ?_, by simpa using hl⟩
 by_cases hj : j < (l.set i n).length
 ·have hj' : j < l.length := by simpa using hj
  rw [List.getD_eq_getElem?_getD, List.getElem?_eq_getElem hj, Option.getD_some, List.getElem_set]
  split
  ·omega
  ·have := h j
   rw [List.getD_eq_getElem?_getD, List.getElem?_eq_getElem hj', Option.getD_some] at this
   omega
 ·have : (l.set i n).getD j Ak = Ak := by simp only [List.getD_eq_getElem?_getD]; rw [List.getElem?_eq_none (by omega)]; rfl
  rw [this]
  simp
theorem AlR (h : Has P Aly) (hPt : L0 P) (hR : IP P) (hM : NF P) (hGW : AfT P) (hRW : AlD P) (hGC : Ab6 P) (hRC : Agm P) (hAw : Hr P) (x : List Node × (List Int × (Int × (Int × (Int × Int))))) :
  Fn P Aje Alv x fun (d : Bool) _ => d = true := by
 obtain ⟨l, raw, n, at_, what, by_⟩ := x
 refine AlI h ?_
 unfold AlC
 dsimp only
 refine ⟨fun _ => hAw.at rfl, fun hc => ?_⟩
 have hc := of_decide_eq_false hc
 refine Ag.mid (fun _ => AlM l) ?_ ?_
 ·refine B0.of (fun d => 0 ≤ d.2 ∧ d.2 ≤ l.length ∧ ∀ j : Nat, (j : Int) < d.2 → (l.getD j Ak).2.2.2.2.length ≤ 5) (fun d => (l.length - d.2).toNat) ⟨Int.le_refl _, by dsimp only; omega, fun j hj => by dsimp only at hj; omega⟩ ?_
  rintro ⟨u, i⟩ ⟨i0, i1, hi⟩
  dsimp only at i0 i1 hi ⊢
  refine ⟨fun hb => Ag.of ?_, fun hb => ?_⟩
  ·have hb := of_decide_eq_true hb
   rw [w64 (by omega) (by omega)]
   refine ⟨⟨i0, hb⟩, by omega, fun _ => hAw.at rfl, fun h5 => ⟨⟨by omega, by omega, fun j hj => ?_⟩, by omega⟩⟩
   have h5 := of_decide_eq_false h5
   by_cases e : j = i.toNat
   ·subst e; omega
   ·exact hi j (by omega)
  ·have hb := of_decide_eq_false hb
   refine ⟨fun j => ?_, by omega⟩
   rcases Nat.lt_or_ge j l.length with hj | hj
   ·have := hi j (by omega); omega
   ·have : l.getD j Ak = Ak := by simp [List.getD_eq_getElem?_getD, List.getElem?_eq_none hj]
    rw [this]
    simp
 intro _ hF
 refine (hPt (raw, n)).to ?_
 rintro (p : Bs) _ ⟨hm, hpl⟩
 refine hR.at ?_
 have hk := AlT p
 have hl := (TO p).2
 have hK := (TO p).1
 generalize (Dy p).1 = m at hk hl hK ⊢
 refine Ag.mid AlM ⟨fun hc => ?_, fun _ => ⟨hK, hl⟩⟩ ?_
 ·have hc := of_decide_eq_true hc
  refine hM.at (by omega) (by omega) ?_
  have hr := Jw (a := at_) (n := (m.length : Int)) (by omega) (by omega)
  generalize LL at_ (m.length : Int) = i at hr ⊢
  have hi : i.toNat < m.length := by omega
  have hki := hk i.toNat
  refine ⟨⟨hr.1, hr.2⟩, hM.at (by decide) (by decide) (hM.at (by decide) (by decide) ?_)⟩
  refine Ag.mid AlM (Ag.of ⟨fun _ => ⟨hi, hi, AlK hk hl (by dsimp only; omega)⟩, fun _ => Ag.of ⟨fun _ => ⟨hi, hi, AlK hk hl (by dsimp only; omega)⟩, fun _ => Ag.of ⟨fun _ => ⟨hi, hi, AlK hk hl (by dsimp only; omega)⟩, fun _ => Ag.of ⟨fun _ => ⟨hi, ?_, ?_⟩, fun _ => ⟨hK, hl⟩⟩⟩⟩⟩) fun d hd => hd
  ·simp only [List.length_nil]; omega
  ·refine hM.at (by omega) (by omega) ⟨?_, hi, AlK hk hl ?_⟩
   ·simp only [List.nil_append, List.length_cons, List.length_nil]; omega
   ·simp only [List.nil_append, List.length_append, List.length_cons, List.length_nil]; omega
 ·intro m' hF'
  refine hGW.at hF (hRW.at hF (hGW.at hF' (hRW.at hF' (hGC.atE hF (hRC.atE hF ?_)))))
  simp only [beq_self_eq_true, cond_true]
  refine Ag.mid (fun d => d = cE m') ⟨fun _ => hGC.atE hF' rfl, fun hc => absurd hc (by simp), trivial⟩ ?_
  rintro d rfl
  refine Ag.mid (fun d => d = cE m') ⟨fun _ => hRC.atE hF' rfl, fun hc => absurd hc (by simp), trivial⟩ ?_
  rintro d rfl
  simp only [beq_self_eq_true, cond_true]
  refine Ag.mid (fun d => d = true) ⟨fun _ => hAw.at rfl, fun hc => absurd hc (by simp), trivial⟩ ?_
  rintro d rfl
  rfl
end Go.VS
