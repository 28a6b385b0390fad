/- Statistics as a text: the program's and the document's. -/
import Derived.Test.YtcaandgkdmidkaaDoorKSpL27b
import Derived.Test.YtcaandgkdmidkaaDoorKSpRSf
set_option linter.unusedVariables false
set_option linter.unusedSimpArgs false
namespace Go.VS
variable {P : Pg}
theorem GM.at (h : GM P) {l : List Stat} {w : Int} (hl : Few l) {K : Bs × Int → Unit → Prop} (hk : K (sfF l w) ()) : Fn P zS6 Dt (l, w) K :=
 (h (l, w) hl).to fun (d : Bs × Int) _ hd => by
  have hd : d = sfF l w := hd
  subst hd
  exact hk
theorem UT.at (h : UT P) {l : List Stat} {w : Int} (hl : Few l) {K : Bs × Int → Unit → Prop} (hk : K (sfF l w) ()) : Fn P zS8 UM (l, w) K :=
 (h (l, w) hl).to fun (d : Bs × Int) _ hd => by
  have hd : d = sfF l w := hd
  subst hd
  exact hk
theorem Vr (h : Has P UP) (hM : Jc P) (hA : Ud P) (hL : Ub P) (hS : GM P) (hR : UT P) (hAw : D5 P) (x : List Stat × (Int × (List Int × Int))) :
  Fn P V5 UL x fun (d : Bool) _ => d = true := by
 obtain ⟨l, w, raw, n⟩ := x
 refine Vc h ?_
 unfold UY
 dsimp only
 refine ⟨fun _ => hAw.at rfl, fun hc => ?_⟩
 have hl8 := of_decide_eq_false hc
 refine BI.mid (fun _ => Few l) ?_ ?_
 ·refine Mb.of (fun q => 0 ≤ q.2 ∧ q.2 ≤ l.length ∧ ∀ s ∈ l.take q.2.toNat, s.1.length ≤ 60) (fun q => (l.length - q.2).toNat) ⟨by decide, by dsimp only; omega, fun s hs => by simp at hs⟩ ?_
  rintro ⟨b, i⟩ ⟨i0, i1, hi⟩
  dsimp only at i0 i1 hi ⊢
  refine ⟨fun hc => ?_, fun hc => ?_⟩
  ·have hc := of_decide_eq_true hc
   have hlt : i.toNat < l.length := by omega
   refine BI.mid (fun _ => (l.getD i.toNat FH).1.length ≤ 60) ⟨⟨i0, hc⟩, hlt, fun _ => hAw.at rfl, fun hh => ?_⟩ ?_
   ·have hh := of_decide_eq_false hh
    omega
   ·intro q hq
    rw [w64 (by omega) (by omega)]
    refine ⟨⟨by omega, by omega, fun s hs => ?_⟩, by omega⟩
    rw [show (i + 1).toNat = i.toNat + 1 by omega, List.take_add_one] at hs
    rcases List.mem_append.1 hs with hs | hs
    ·exact hi s hs
    ·rw [List.getElem?_eq_getElem hlt] at hs
     rw [getD_eq hlt] at hq
     have hs : s = l[i.toNat] := by simpa using hs
     rw [hs]
     exact hq
  ·have hc := of_decide_eq_false hc
   rw [show i.toNat = l.length by omega, List.take_length] at hi
   exact ⟨by omega, hi⟩
 intro _ hfew
 refine BI.mid TK ?_ ?_
 ·refine Mb.of (fun q => 0 ≤ q.2 ∧ (q.1.length : Int) = q.2 ∧ TK q.1) (fun q => (6 - q.2).toNat) ⟨by decide, rfl, by decide, fun s hs => nomatch hs⟩ ?_
  rintro ⟨m, i⟩ ⟨i0, hi, hm⟩
  dsimp only at i0 hi hm ⊢
  refine hM.at (by decide) (by decide) ?_
  have hr := Tl (a := n) (n := 6) (by decide) (by decide)
  generalize Q6 n 6 = u at *
  refine ⟨fun hc => ?_, fun hc => hm⟩
  have hc := of_decide_eq_true hc
  refine BI.mid (fun q => (q.length : Int) = i + 1 ∧ TK q) ?_ ?_
  ·refine (hL i).to ?_
   rintro (d : Bs) _ hd
   have hd : d.length ≤ 3 := hd
   rw [w64 (n := 2 * i) (by omega) (by omega), w64 (n := 2 * i + 1) (by omega) (by omega)]
   refine hA.at (by omega) (hM.at (by decide) (by decide) (hA.at (by omega) (hM.at (by decide) (by decide) ?_)))
   have r1 := Tl (a := atF raw (2 * i)) (n := 50) (by decide) (by decide)
   have r2 := Tl (a := atF raw (2 * i + 1)) (n := 30) (by decide) (by decide)
   have := hm.1
   refine ⟨by simp only [List.length_cons, List.length_nil]; omega, by simp only [List.length_append, List.length_cons, List.length_nil]; omega, by simp only [List.length_append, List.length_cons, List.length_nil]; omega, fun s hs => ?_⟩
   rcases List.mem_append.1 hs with hs | hs
   ·exact hm.2 s hs
   ·rw [List.mem_singleton.1 hs]
    exact ⟨hd, r1.1, r1.2, r2.1, r2.2⟩
  ·rintro q ⟨hq, hq2⟩
   rw [w64 (by omega) (by omega)]
   exact ⟨⟨by omega, hq, hq2⟩, by omega⟩
 ·intro m hm
  have hm := hm.few
  refine hS.at hfew (hR.at hfew (hM.at (by decide) (by decide) (hS.at hm (hM.at (by decide) (by decide) (hR.at hm ?_)))))
  simp only [beq_self_eq_true, cond_true]
  refine BI.mid (fun d => d = true) ⟨fun _ => hAw.at rfl, fun hc => absurd hc (by simp), trivial⟩ ?_
  rintro d rfl
  rfl
end Go.VS
