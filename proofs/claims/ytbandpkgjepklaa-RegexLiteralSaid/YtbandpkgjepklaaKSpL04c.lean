/- Limits and literals. -/
import Derived.Test.YtbandpkgjepklaaKSpL04b
set_option linter.unusedVariables false
set_option linter.unusedSimpArgs false
namespace Go.VS
variable {P : Pg}
theorem Akp (s : Bs) : ((Aj6 s).length : Int) = if (s.length : Int) = 0 then (1 : Int) else if (s.length : Int) > 1 then (s.length : Int) + 1 else (s.length : Int) := by
 unfold Aj6
 by_cases h0 : s.length = 0
 ·rw [if_pos h0, if_pos (show (s.length : Int) = 0 by omega)]; rfl
 ·rw [if_neg h0, if_neg (show ¬ (s.length : Int) = 0 by omega)]
  by_cases h1 : s.length = 1
  ·rw [if_pos h1, if_neg (show ¬ (s.length : Int) > 1 by omega), List.length_map]
  ·rw [if_neg h1, if_pos (show (s.length : Int) > 1 by omega)]
   simp
theorem Akr (s : Bs) {i : Nat} (h : i < s.length) : (Aj6 s).getD i Ak = Aj8 (s.getD i 0) := by
 have hm : (s.map Aj8).getD i Ak = Aj8 (s.getD i 0) := by
  simp [List.getD_eq_getElem?_getD, List.getElem?_eq_getElem h]
 unfold Aj6
 rw [if_neg (by omega)]
 split
 ·exact hm
 ·rw [Dx (by simpa using h)]
  exact hm
theorem Akn (s : Bs) (h : 1 < s.length) : (Aj6 s).getD s.length Ak = EV 4 (Akh s.length) := by
 unfold Aj6
 rw [if_neg (by omega), if_neg (by omega)]
 have : s.length = (s.map Aj8).length := by simp
 conv => lhs; rw [show (s.map Aj8 ++ [EV 4 (List.map (fun i => ((i : Nat) : Int)) (List.range s.length))]).getD s.length Ak = (s.map Aj8 ++ [EV 4 (List.map (fun i => ((i : Nat) : Int)) (List.range s.length))]).getD (s.map Aj8).length Ak by rw [← this]]
 rw [HI]
 rfl
theorem Akl (h : Has P Aj7) (hL : Ab1 P) (hP : Hk P) (hC : Ab6 P) (hCn : Akm P) (hI : OX P) (hPut : Hq P) (hAw : Hr P) (x : Bs) :
  Fn P VJ Aj4 x fun (d : Bool) _ => d = true := by
 refine Akd h ?_
 unfold Akb
 refine ⟨fun _ => hAw.at rfl, fun hc => ?_⟩
 have hc := of_decide_eq_false hc
 refine (hL x (by omega)).to ?_
 rintro (d : Bs) _ hd
 have hd : d = AbQ x := hd
 subst hd
 have h256 : (AbQ x).length ≤ 256 := by have := (Aci x).2; omega
 have hpe : Dy (AbQ x) = (Aj6 x, 0) := by rw [← W8, Akw x h256]
 have hok := YC hpe
 refine hP.at ?_
 rw [hpe]
 have hlen := Akp x
 have hlen2 := hlen
 dsimp only
 simp only [bne_self_eq_false, cond_false]
 refine Ag.mid (fun d => d = 0) ⟨fun _ => hC.at hok.1 hok.2.1 rfl, fun hc => absurd hc (by simp), trivial⟩ ?_
 rintro d rfl
 refine ⟨fun hc => absurd hc (by simp), fun _ => ⟨fun h0 => ?_, fun h0 => ?_⟩⟩
 ·have h0 : (x.length : Int) = 0 := by simpa using h0
  have hx : x = [] := List.length_eq_zero_iff.1 (by omega)
  subst hx
  refine ⟨fun _ => by decide, fun _ => by decide, ?_⟩
  refine Ag.mid (fun d => d = true) ⟨fun _ => hAw.at rfl, fun hc => absurd hc (by simp [Aj6, HM]), trivial⟩ ?_
  rintro d rfl
  rfl
 ·have h0 : ¬ (x.length : Int) = 0 := by simpa using h0
  rw [if_neg h0] at hlen2
  refine Ag.mid (fun d => d = ((Aj6 x).length : Int)) ⟨fun h1 => ?_, fun h1 => ?_⟩ ?_
  ·rw [hlen2, if_pos (of_decide_eq_true h1), w64 (by omega) (by omega)]
  ·rw [hlen2, if_neg (of_decide_eq_false h1)]
  rintro d rfl
  refine Ag.mid (fun d => d = false) ⟨fun hc => absurd hc (by simp), fun _ => ⟨fun h1 => ?_, fun _ => ⟨⟨⟨rfl, trivial⟩, trivial⟩, ⟨rfl, trivial⟩, trivial⟩⟩⟩ ?_
  ·have h1 := of_decide_eq_true h1
   rw [if_pos h1] at hlen2
   have hl := Akn x (by omega)
   have ix : ((x.length : Nat) : Int).toNat = x.length := by omega
   rw [ix, hl]
   have hcnt : ∀ K : List Int → Unit → Prop, K (Akh x.length) () → Fn P Oe Aj5 ((x.length : Nat) : Int) K := fun K hk => (hCn _ (by omega) (by omega)).to fun (q : List Int) _ hq => by
    have hq : q = Akh (((x.length : Nat) : Int).toNat) := hq
    rw [ix] at hq
    subst hq
    exact hk
   have hint : ∀ K : Bool → Unit → Prop, K true () → Fn P zS6 Df ((EV 4 (Akh x.length)).2.2.2.2, Akh x.length) K := fun K hk => (hI (Akh x.length, Akh x.length) (by rw [Akk]; omega)).to fun (q : Bool) _ hq => by
    have hq : q = true := hq.2 rfl
    subst hq
    exact hk
   refine ⟨⟨by omega, by omega⟩, by omega, fun hc => absurd hc (by simp [EV]), fun _ => ⟨⟨by omega, by omega⟩, ⟨by omega, hcnt _ ⟨hint _ rfl, trivial⟩, trivial⟩, hcnt _ ⟨by omega, hint _ rfl, trivial⟩, trivial⟩⟩
  ·rintro d rfl
   refine ⟨fun hc => absurd hc (by simp), fun _ => ?_⟩
   refine Ag.mid (fun d => True) ?_ (fun d _ => hAw.at rfl)
   have hge : x.length ≤ (Aj6 x).length := by
    have : (x.length : Int) ≤ (Aj6 x).length := by rw [hlen2]; split <;> omega
    omega
   refine B0.of (fun d => 0 ≤ d.2 ∧ d.2 ≤ x.length) (fun d => (x.length - d.2).toNat) ⟨Int.le_refl _, by dsimp only; omega⟩ ?_
   rintro ⟨u, i⟩ ⟨i0, i1⟩
   dsimp only at i0 i1 ⊢
   refine ⟨fun hb => Ag.of ?_, fun _ => trivial⟩
   have hb := of_decide_eq_true hb
   have hl := Akr x (i := i.toNat) (by omega)
   rw [hl]
   have hput : ∀ K : Bb → Unit → Prop, K (EG z4 (byt x i.toNat)) () → Fn P zS9 Br (((0 : Int), ((0 : Int), ((0 : Int), (0 : Int)))), byt x i.toNat) K := fun K hk => hPut.at (CQ x i.toNat).1 (CQ x i.toNat).2 fun q hq => by
    have hq : q = EG z4 (byt x i.toNat) := hq
    subst hq
    exact hk
   refine Ag.mid (fun d => d = false) ⟨⟨i0, by omega⟩, by omega, fun _ => ⟨i0, by omega⟩, fun _ => ⟨i0, hb⟩, ⟨fun _ => by omega, ?_, trivial⟩, ?_, trivial⟩ ?_
   ·refine Ag.mid (fun d => d = EG z4 (byt x i.toNat)) ⟨fun _ => hput _ rfl, fun hc => absurd hc (by simp [Aj8, setNode]), trivial⟩ ?_
    rintro d rfl
    simp [Aj8, setNode, byt]
   ·refine Ag.mid (fun d => d = EG z4 (byt x i.toNat)) ⟨fun _ => hput _ rfl, fun hc => absurd hc (by simp [Aj8, setNode]), trivial⟩ ?_
    rintro d rfl
    refine ⟨fun _ => by omega, ?_⟩
    simp [Aj8, setNode, byt]
   ·rintro d rfl
    refine ⟨fun hc => absurd hc (by simp), fun _ => ?_⟩
    rw [w64 (by omega) (by omega)]
    exact ⟨⟨by omega, by omega⟩, by omega⟩
end Go.VS
