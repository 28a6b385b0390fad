/- More of the statements about layer 4. -/
import Derived.Test.YtbandpkgjepklaaKSpL04
import Derived.Test.YtbandpkgjepklaaKSpPatW
import Derived.Test.YtbandpkgjepklaaKSpPrs
set_option linter.unusedVariables false
set_option linter.unusedSimpArgs false
namespace Go.VS
variable {P : Pg}
def upB (l : Bs) : List Int := l.map fun b => ((b.toNat : Nat) : Int)
theorem AcC (l : Bs) : strOf (upB l) = l := by
 unfold strOf upB
 rw [List.map_map]
 refine (List.map_congr_left (g := id) fun b _ => ?_).trans (List.map_id l)
 show UInt8.ofNat (((b.toNat : Nat) : Int)).toNat = b
 simp
theorem Acy (l m : Bs) : upB (l ++ m) = upB l ++ upB m := List.map_append ..
theorem Acz (l : Bs) : (upB l).length = l.length := List.length_map ..
def Ab2 (P : Pg) : Prop := ∀ x : Int, Fn P YZ AbC x fun (d : Bool) _ => d = decide (AbH x)
theorem Acj {x c : Int} (hc : (x == c) = true) (h : AbH c) : (x == c) = decide (AbH x) := by
 have : x = c := by simpa using hc
 subst this
 rw [hc, decide_eq_true h]
theorem AcR (x : Int) (h40 : (x == 40) = false) (h41 : (x == 41) = false) (h91 : (x == 91) = false) (h123 : (x == 123) = false) (h42 : (x == 42) = false) (h43 : (x == 43) = false) (h63 : (x == 63) = false) (h124 : (x == 124) = false) (h46 : (x == 46) = false) (h94 : (x == 94) = false) (h36 : (x == 36) = false) : (x == 92) = decide (AbH x) := by
 simp only [beq_eq_false_iff_ne, ne_eq] at *
 by_cases h : x = 92
 ·rw [h]; rfl
 ·have : ¬ AbH x := by unfold AbH; omega
  rw [decide_eq_false this]
  simpa using h
theorem Acv (h : Has P AbJ) : Ab2 P := by
 intro x
 refine Ab8 h ?_
 unfold AbX
 refine Ag.mid (fun q => q = false ∧ ¬ AbH x) ?_ ?_
 ·refine Ag.mid (fun q => q = decide (AbH x)) ⟨fun hc => Acj hc (by decide), fun h40 => Ag.of ⟨fun hc => Acj hc (by decide), fun h41 => Ag.of ⟨fun hc => Acj hc (by decide), fun h91 => Ag.of ⟨fun hc => Acj hc (by decide), fun h123 => Ag.of ⟨fun hc => Acj hc (by decide), fun h42 => Ag.of ⟨fun hc => Acj hc (by decide), fun h43 => Ag.of ⟨fun hc => Acj hc (by decide), fun h63 => Ag.of ⟨fun hc => Acj hc (by decide), fun h124 => Ag.of ⟨fun hc => Acj hc (by decide), fun h46 => Ag.of ⟨fun hc => Acj hc (by decide), fun h94 => Ag.of ⟨fun hc => Acj hc (by decide), fun h36 => AcR x h40 h41 h91 h123 h42 h43 h63 h124 h46 h94 h36⟩⟩⟩⟩⟩⟩⟩⟩⟩⟩⟩ ?_
  rintro q hq
  subst hq
  exact ⟨fun hc => hc.symm, fun hc => ⟨rfl, of_decide_eq_false hc⟩⟩
 ·rintro q ⟨rfl, h⟩
  exact (decide_eq_false h).symm
def AbZ (P : Pg) : Prop := ∀ s : Bs, s.length ≤ 1000000 → Fn P Y0 AbB s fun (d : Bs) _ => d = AbQ s
theorem AcB (s : Bs) {i : Nat} (h : i < s.length) : AbQ (s.take (i + 1)) = AbQ (s.take i) ++ Acf (s.getD i 0) := by
 rw [List.take_add_one, List.getElem?_eq_getElem h]
 unfold AbQ
 rw [List.flatMap_append]
 simp [List.getD_eq_getElem?_getD, List.getElem?_eq_getElem h]
theorem Acr (h : Has P AbI) (hS : Ab2 P) : AbZ P := by
 intro s hs
 refine Ab7 h ?_
 unfold AbW
 refine Ag.mid (fun d => d = upB (AbQ s)) ?_ ?_
 ·refine B0.of (fun d => 0 ≤ d.2 ∧ d.2 ≤ s.length ∧ d.1 = upB (AbQ (s.take d.2.toNat))) (fun d => (s.length - d.2).toNat) ⟨Int.le_refl _, by dsimp only; omega, rfl⟩ ?_
  rintro ⟨l, i⟩ ⟨i0, i1, hl⟩
  dsimp only at i0 i1 hl ⊢
  subst hl
  have hlen := (Aci (s.take i.toNat)).2
  have htk : (s.take i.toNat).length ≤ s.length := by rw [List.length_take]; exact Nat.min_le_right _ _
  refine ⟨fun hc => ?_, fun hc => ?_⟩
  ·have hc := of_decide_eq_true hc
   refine Ag.mid (fun d => d = upB (AbQ (s.take (i.toNat + 1)))) ⟨⟨i0, hc⟩, (hS _).to ?_⟩ ?_
   ·rintro (b : Bool) _ hb
    have hb : b = decide (AbH (byt s i.toNat)) := hb
    subst hb
    have e : ∀ l : List Int, (strOf l).length = l.length := fun l => by simp [strOf]
    refine Ag.mid (fun d => d = upB (AbQ (s.take i.toNat) ++ if AbH (byt s i.toNat) then [92] else [])) ⟨fun hb => ?_, fun hb => ?_⟩ ?_
    ·rw [if_pos (of_decide_eq_true hb), Acy]
     refine ⟨?_, rfl⟩
     rw [Acz]
     simp only [List.length_cons, List.length_nil]
     omega
    ·rw [if_neg (of_decide_eq_false hb), List.append_nil]
    ·rintro d rfl
     refine ⟨⟨i0, hc⟩, ?_, ?_⟩
     ·rw [Acz, List.length_append]
      have : (if AbH (byt s i.toNat) then [92] else [] : Bs).length ≤ 1 := by split <;> simp
      simp only [List.length_cons, List.length_nil]
      omega
     ·rw [AcB s (show i.toNat < s.length by omega)]
      have : Acf (s.getD i.toNat 0) = (if AbH (byt s i.toNat) then [92] else []) ++ [s.getD i.toNat 0] := by
       unfold Acf byt
       by_cases h1 : AbH (((s.getD i.toNat 0).toNat : Nat) : Int)
       ·rw [if_pos h1, if_pos h1]; rfl
       ·rw [if_neg h1, if_neg h1]; rfl
      rw [this, ← List.append_assoc, Acy _ [_]]
      rfl
   ·rintro d rfl
    rw [w64 (by omega) (by omega)]
    refine ⟨⟨by omega, by omega, ?_⟩, by omega⟩
    rw [show (i + 1).toNat = i.toNat + 1 by omega]
  ·have hc := of_decide_eq_false hc
   rw [show i.toNat = s.length by omega, List.take_length]
 ·rintro d rfl
  exact AcC _
theorem Acs (h : Has P AbG) (hP : Hk P) (hR : IP P) (hN : IM P) (hL : Ab1 P) (hRL : AbZ P) (hAw : Hr P) (x : Bs) :
  Fn P Y7 AbA x fun (d : Bool) _ => d = true := by
 refine Ab5 h ?_
 unfold AbT
 refine ⟨fun _ => hAw.at rfl, fun hc => ?_⟩
 have hc := of_decide_eq_false hc
 refine hP.at (hR.at ?_)
 simp only [beq_self_eq_true, cond_true]
 refine Ag.mid (fun d => d = true) ⟨fun _ => hN.at rfl, fun hc => absurd hc (by simp), trivial⟩ ?_
 rintro d rfl
 refine Ag.mid (fun d => d = AbQ x) ⟨fun _ => hL x (by omega), fun hc => absurd hc (by simp), trivial⟩ ?_
 rintro d rfl
 refine Ag.mid (fun d => d = AbQ x) ⟨fun _ => hRL x (by omega), fun hc => absurd hc (by simp), trivial⟩ ?_
 rintro d rfl
 refine Ag.mid (fun d => d = true) ⟨fun _ => hAw.at rfl, fun hc => absurd hc (by simp), trivial⟩ ?_
 rintro d rfl
 simp
end Go.VS
