/- The document's reader of paths. -/
import Derived.Test.YtdnomijflodcgaaDoorKSpPath
set_option linter.unusedVariables false
set_option linter.unusedSimpArgs false
namespace Go.VS
variable {P : Pg}
theorem AiB (acc r : Bs) : spN acc (47 :: r) = acc :: spN [] r := by rw [spN, if_pos rfl]
theorem AiC {b : UInt8} (h : b ≠ 47) (acc r : Bs) : spN acc (b :: r) = spN (acc ++ [b]) r := by rw [spN, if_neg h]
theorem XW {s : Bs} {i : Nat} (h : i < s.length) : s.drop i = s.getD i 0 :: s.drop (i + 1) := by
 rw [List.drop_eq_getElem_cons h, List.getD_eq_getElem?_getD, List.getElem?_eq_getElem h, Option.getD_some]
theorem Ah3 {s : Bs} {i : Nat} (h : i < s.length) : s.take (i + 1) = s.take i ++ [s.getD i 0] := by
 rw [List.take_add_one, List.getElem?_eq_getElem h, List.getD_eq_getElem?_getD, List.getElem?_eq_getElem h]
 rfl
theorem AiA {s : Bs} {i : Nat} (h : i < s.length) : List.drop i (List.take (i + 1) s) = [s.getD i 0] := by
 rw [Ah3 h, List.drop_append_of_le_length (by rw [List.length_take]; omega), List.drop_eq_nil_of_le (by rw [List.length_take]; omega)]
 rfl
theorem byI (b c : UInt8) : (((b.toNat : Nat) : Int) == ((c.toNat : Nat) : Int)) = (b == c) := by
 by_cases h : b = c
 ·subst h; simp
 ·rw [show (b == c) = false from beq_eq_false_iff_ne.2 h, beq_eq_false_iff_ne]
  intro e
  exact h (UInt8.toNat_inj.1 (by omega))
theorem by0 (b : UInt8) : (((b.toNat : Nat) : Int) == (0 : Int)) = (b == 0) := byI b 0
theorem Ad3 (b : UInt8) : (((b.toNat : Nat) : Int) == (47 : Int)) = (b == 47) := byI b 47
theorem Ain (n : Bs) : (cond (cond (n == ([] : Bs)) true (n == ([46] : Bs))) true (n == ([46, 46] : Bs))) = !NW n := by
 unfold NW
 cases n == ([] : Bs) <;> cases n == ([46] : Bs) <;> cases n == ([46, 46] : Bs) <;> rfl
theorem Aip {s : Bs} (h : (spN [] s).all NW = false) : EF s = 210 := by
 unfold EF
 split
 ·rfl
 ·rw [if_neg (by rw [h]; simp)]
def Ahv (P : Pg) : Prop := ∀ s : Bs, s.length ≤ 140737488351232 → Fn P WO Ahj s fun (d : Int) _ => d = EF s
theorem Aij (h : Has P Ahs) : Ahv P := by
 intro s hs
 refine AhZ h ?_
 unfold AhF
 refine ⟨fun hc => ?_, fun hc => ?_⟩
 ·rw [Bool.cond_eq_ite] at hc
  split at hc
  ·rename_i h1
   have h1 := of_decide_eq_true h1
   obtain rfl : s = [] := List.length_eq_zero_iff.1 (by omega)
   decide
  ·have h2 := of_decide_eq_true hc
   unfold EF
   rw [if_pos (.inl (by omega))]
 have hl : 1 ≤ s.length ∧ s.length ≤ 200 := by
  rw [Bool.cond_eq_ite] at hc
  split at hc
  ·cases hc
  ·rename_i h1
   have h2 := of_decide_eq_false hc
   have h1 : ¬ ((s.length : Int) < 1) := fun h => h1 (decide_eq_true h)
   omega
 clear hc
 refine Ai.mid (fun _ => EF s = 0) ?_ fun _ h => h.symm
 refine Bl.of (fun q => (0 ≤ q.2.2 ∧ q.2.2 ≤ s.length + 1 ∧ (q.2.1.length : Int) ≤ q.2.2) ∧ (∀ b ∈ s.take q.2.2.toNat, b ≠ 0) ∧ (spN [] s).all NW = if q.2.2 ≤ s.length then (spN q.2.1 (s.drop q.2.2.toNat)).all NW else true) (fun q => (s.length + 1 - q.2.2).toNat) ⟨⟨Int.le_refl _, by dsimp only; omega, by simp⟩, by simp, by simp⟩ ?_
 rintro ⟨q1, nm, i⟩ ⟨⟨i0, i1, hnl⟩, hz, hal⟩
 dsimp only at i0 i1 hnl hz hal ⊢
 have e1 : (i + 1).toNat = i.toNat + 1 := by omega
 refine ⟨fun hi => ?_, fun hi => ?_⟩
 ·have hi := of_decide_eq_true hi
  rw [if_pos hi] at hal
  refine Ai.mid (fun q => (q.2.length : Int) ≤ i + 1 ∧ (∀ b ∈ s.take (i.toNat + 1), b ≠ 0) ∧ (spN [] s).all NW = if i + 1 ≤ s.length then (spN q.2 (s.drop (i.toNat + 1))).all NW else true) ?_ ?_
  ·by_cases hlt : i < s.length
   ·have hn : i.toNat < s.length := by omega
    rw [show decide (i < ((List.length s : Nat) : Int)) = true from decide_eq_true hlt, w64 (n := i + 1) (by omega) (by omega), e1]
    simp only [cond_true]
    rw [by0, show ((((UInt8.toNat (List.getD s i.toNat 0) : Nat) : Int) != 47)) = !(List.getD s i.toNat 0 == 47) from by rw [bne, Ad3]]
    rw [XW hn] at hal
    rw [if_pos (by omega), Ah3 hn]
    generalize hb : s.getD i.toNat 0 = b at hal ⊢
    have hz2 : b ≠ 0 → ∀ c ∈ s.take i.toNat ++ [b], c ≠ 0 := fun hb0 c hc => by
     rcases List.mem_append.1 hc with hc | hc
     ·exact hz c hc
     ·rw [List.mem_singleton.1 hc]; exact hb0
    refine ⟨fun _ => ⟨i0, hlt⟩, fun h0 => ?_, fun h0 => ⟨fun _ => ⟨i0, hlt⟩, fun h4 => ?_, fun h4 => ?_⟩⟩
    ·have h0 : b = 0 := eq_of_beq h0
     unfold EF
     rw [if_pos (.inr (by rw [← h0, ← hb]; exact BK hn))]
    ·have h0 : b ≠ 0 := beq_eq_false_iff_ne.1 h0
     have h4 : b ≠ 47 := by simpa using h4
     rw [show List.drop i.toNat (s.take i.toNat ++ [b]) = [b] from by rw [← hb, ← Ah3 hn, AiA hn]]
     refine ⟨⟨i0, by omega, by omega⟩, by simp only [List.length_cons, List.length_nil]; omega, ?_, hz2 h0, ?_⟩
     ·rw [List.length_append]
      simp only [List.length_cons, List.length_nil]
      omega
     ·rw [hal, AiC h4]
    ·have h0 : b ≠ 0 := beq_eq_false_iff_ne.1 h0
     have h4 : b = 47 := by simpa using h4
     subst h4
     rw [AiB, List.all_cons] at hal
     rw [Ain]
     refine ⟨fun hg => ?_, fun hg => ⟨by simp; omega, hz2 h0, ?_⟩⟩
     ·have hg : NW nm = false := by simpa using hg
      exact (Aip (by rw [hal, hg]; rfl)).symm
     ·have hg : NW nm = true := by simpa using hg
      rw [hal, hg, Bool.true_and, if_pos (by omega)]
   ·have hn : i.toNat = s.length := by omega
    rw [show decide (i < ((List.length s : Nat) : Int)) = false from decide_eq_false hlt]
    simp only [cond_false]
    rw [hn, List.drop_length, spN, List.all_cons, List.all_nil, Bool.and_true] at hal
    rw [Ain]
    refine ⟨fun h => (nomatch h), fun h => (nomatch h), fun _ => ⟨fun h => (nomatch h), fun h => (nomatch h), fun _ => ⟨fun hg => ?_, fun hg => ⟨by simp; omega, ?_, ?_⟩⟩⟩⟩
    ·have hg : NW nm = false := by simpa using hg
     exact (Aip (by rw [hal, hg])).symm
    ·intro c hc
     rw [List.take_of_length_le (by omega)] at hc
     refine hz c ?_
     rw [List.take_of_length_le (by omega)]
     exact hc
    ·have hg : NW nm = true := by simpa using hg
     rw [if_neg (by omega), hal, hg]
  ·rintro ⟨q1', nm'⟩ ⟨h1, h2, h3⟩
   dsimp only at h1 h2 h3 ⊢
   rw [w64 (by omega) (by omega), e1]
   exact ⟨⟨⟨by omega, by omega, h1⟩, h2, h3⟩, by omega⟩
 ·have hi := of_decide_eq_false hi
  rw [if_neg hi] at hal
  rw [List.take_of_length_le (by omega)] at hz
  unfold EF
  rw [if_neg (by rintro (h1 | h1); omega; exact hz 0 h1 rfl), if_pos hal]
theorem Fb.at (h : Fb P) {s : Bs} (hs : s.length ≤ 140737488351232) {K : Int → Unit → Prop} (hk : K (EF s) ()) : Fn P AaM DJ s K :=
 (h s hs).to fun (d : Int) _ hd => by
  have hd : d = EF s := hd
  subst hd
  exact hk
theorem Ahv.at (h : Ahv P) {s : Bs} (hs : s.length ≤ 140737488351232) {K : Int → Unit → Prop} (hk : K (EF s) ()) : Fn P WO Ahj s K :=
 (h s hs).to fun (d : Int) _ hd => by
  have hd : d = EF s := hd
  subst hd
  exact hk
end Go.VS
