/- The document's differences. -/
import Derived.Test.YtbpbcfiodckhjaaDoorKSpDiff
import Derived.Test.YtbpbcfiodckhjaaDoorKSpRTree
set_option linter.unusedVariables false
set_option linter.unusedSimpArgs false
namespace Go.VS
variable {P : Pg}
def L7 (P : Pg) : Prop := ∀ x : List Aw × List Aw, CH x.1 → CH x.2 → Fn P "mergelens/tree.both" Dn x fun (d : Int) _ => d = Hl x.1 x.2
theorem VV (h : Has P F8) (hT : Du P) : L7 P := by
 rintro ⟨a, b⟩ ha hb
 dsimp only at ha hb
 refine Pk h ?_
 unfold Ll Hl
 dsimp only
 refine hT.at ha ⟨fun hc => ?_, fun hc => ?_⟩
 ·rw [if_pos (by simpa using hc)]
 ·rw [if_neg (by simpa using hc)]
  exact hT.at hb rfl
structure Gath (a b : List Aw) (o : List Bs) (i j : Nat) : Prop where
 srt : o.Pairwise fun x y => Op.bytesLess x y = true
 mem : ∀ t, t ∈ o ↔ (∃ k, k < i ∧ k < a.length ∧ pth a k = t) ∨ ∃ k, k < j ∧ k < b.length ∧ pth b k = t
 la : ∀ t ∈ o, ∀ k, i ≤ k → k < a.length → Op.bytesLess t (pth a k) = true
 lb : ∀ t ∈ o, ∀ k, j ≤ k → k < b.length → Op.bytesLess t (pth b k) = true
 len : o.length ≤ i + j
theorem Gn.mono {l : List Aw} (h : Gn l) {i k : Nat} (hk : k < l.length) (hi : i < k) : Op.bytesLess (pth l i) (pth l k) = true := (h k hk i hi).1
theorem Gath.push {a b : List Aw} {o : List Bs} {i j i' j' : Nat} {t : Bs} (g : Gath a b o i j) (hlt : ∀ u ∈ o, Op.bytesLess u t = true) (hi : i ≤ i') (hj : j ≤ j')
  (hmem : ∀ u, (u = t ∨ (∃ k, k < i ∧ k < a.length ∧ pth a k = u) ∨ ∃ k, k < j ∧ k < b.length ∧ pth b k = u) ↔ (∃ k, k < i' ∧ k < a.length ∧ pth a k = u) ∨ ∃ k, k < j' ∧ k < b.length ∧ pth b k = u)
  (ha : ∀ k, i' ≤ k → k < a.length → Op.bytesLess t (pth a k) = true) (hb : ∀ k, j' ≤ k → k < b.length → Op.bytesLess t (pth b k) = true) (hl : i + j + 1 ≤ i' + j') : Gath a b (o ++ [t]) i' j' where
 srt := List.pairwise_append.2 ⟨g.srt, List.pairwise_singleton .., fun x hx y hy => by rw [List.mem_singleton.1 hy]; exact hlt x hx⟩
 mem u := by
  rw [List.mem_append, List.mem_singleton, ← hmem, g.mem]
  exact Or.comm
 la u hu k h1 h2 := by
  rcases List.mem_append.1 hu with hu | hu
  ·exact g.la u hu k (by omega) h2
  ·rw [List.mem_singleton.1 hu]; exact ha k h1 h2
 lb u hu k h1 h2 := by
  rcases List.mem_append.1 hu with hu | hu
  ·exact g.lb u hu k (by omega) h2
  ·rw [List.mem_singleton.1 hu]; exact hb k h1 h2
 len := by rw [List.length_append]; simp only [List.length_cons, List.length_nil]; have := g.len; omega
theorem exS {a : List Aw} {i : Nat} (hi : i < a.length) (u : Bs) : (∃ k, k < i + 1 ∧ k < a.length ∧ pth a k = u) ↔ u = pth a i ∨ ∃ k, k < i ∧ k < a.length ∧ pth a k = u := by
 constructor
 ·rintro ⟨k, h1, h2, h3⟩
  by_cases e : k = i
  ·subst e; exact .inl h3.symm
  ·exact .inr ⟨k, by omega, h2, h3⟩
 ·rintro (rfl | ⟨k, h1, h2, h3⟩)
  ·exact ⟨i, by omega, hi, rfl⟩
  ·exact ⟨k, by omega, h2, h3⟩
def KE (P : Pg) : Prop := ∀ x : List Aw × List Aw, CH x.1 → CH x.2 → Gn x.1 → Gn x.2 → Fn P SZ Cf x fun (d : List Bs) _ => Gath x.1 x.2 d x.1.length x.2.length
theorem UB (h : Has P EG) : KE P := by
 rintro ⟨a, b⟩ ha hb oa ob
 dsimp only at ha hb oa ob
 have hna := ha.1
 have hnb := hb.1
 refine MA h ?_
 unfold IH
 dsimp only
 refine Ar.mid (fun d => Gath a b d a.length b.length) ?_ fun _ h => h
 refine BU.of (fun q => (0 ≤ q.2.1 ∧ q.2.1 ≤ a.length) ∧ (0 ≤ q.2.2 ∧ q.2.2 ≤ b.length) ∧ Gath a b q.1 q.2.1.toNat q.2.2.toNat) (fun q => (a.length - q.2.1).toNat + (b.length - q.2.2).toNat) ⟨⟨Int.le_refl _, Int.natCast_nonneg _⟩, ⟨Int.le_refl _, Int.natCast_nonneg _⟩, ⟨List.Pairwise.nil, fun t => by simp, fun t h => (nomatch h), fun t h => (nomatch h), Nat.le_refl _⟩⟩ ?_
 rintro ⟨o, i, j⟩ ⟨⟨i0, i1⟩, ⟨j0, j1⟩, g⟩
 dsimp only at i0 i1 j0 j1 g ⊢
 have hol := g.len
 refine ⟨fun hc => ?_, fun hc => ?_⟩
 ·refine Ar.mid (fun q => ((0 ≤ q.2.1 ∧ q.2.1 ≤ a.length) ∧ (0 ≤ q.2.2 ∧ q.2.2 ≤ b.length) ∧ Gath a b q.1 q.2.1.toNat q.2.2.toNat) ∧ (a.length - q.2.1).toNat + (b.length - q.2.2).toNat < (a.length - i).toNat + (b.length - j).toNat) ?_ fun q hq => ⟨hq.1, hq.2⟩
  refine Ar.mid (fun q => ((0 ≤ q.2.1 ∧ q.2.1 ≤ a.length) ∧ (0 ≤ q.2.2 ∧ q.2.2 ≤ b.length) ∧ Gath a b q.1 q.2.1.toNat q.2.2.toNat) ∧ (a.length - q.2.1).toNat + (b.length - q.2.2).toNat < (a.length - i).toNat + (b.length - j).toNat) ?_ fun _ h => h
  have hij : i < a.length ∨ j < b.length := by
   rw [Bool.cond_eq_ite] at hc
   split at hc
   ·rename_i h1; exact .inl (of_decide_eq_true h1)
   ·exact .inr (of_decide_eq_true hc)
  have hjn : (j == ((b.length : Nat) : Int)) = false → j < b.length := fun h => by have := beq_eq_false_iff_ne.1 h; omega
  have hin : (i == ((a.length : Nat) : Int)) = false → i < a.length := fun h => by have := beq_eq_false_iff_ne.1 h; omega
  refine Ar.mid (fun d => d = (cond (j == ((b.length : Nat) : Int)) true (cond (decide (i < ((a.length : Nat) : Int))) (Op.bytesLess (pth a i.toNat) (pth b j.toNat)) false))) ⟨fun h1 _ => ⟨i0, of_decide_eq_true h1⟩, fun h1 _ => by have := of_decide_eq_true h1; omega, fun _ h2 => ⟨j0, hjn h2⟩, fun _ h2 => by have := hjn h2; omega, rfl, trivial⟩ ?_
  intro d hd
  have ea : (i + 1).toNat = i.toNat + 1 := by omega
  have eb : (j + 1).toNat = j.toNat + 1 := by omega
  refine Ar.mid (fun q => ((0 ≤ q.2.1 ∧ q.2.1 ≤ a.length) ∧ (0 ≤ q.2.2 ∧ q.2.2 ≤ b.length) ∧ Gath a b q.1 q.2.1.toNat q.2.2.toNat) ∧ (a.length - q.2.1).toNat + (b.length - q.2.2).toNat < (a.length - i).toNat + (b.length - j).toNat) ⟨fun ht => ?_, fun hf => ?_⟩ fun _ h => h
  ·subst hd
   have hia : i < a.length := by
    rcases hij with h | h
    ·exact h
    ·rw [beq_eq_false_iff_ne.2 (by omega : j ≠ ((b.length : Nat) : Int)), cond_false, Bool.cond_eq_ite] at ht
     split at ht
     ·rename_i h1; exact of_decide_eq_true h1
     ·cases ht
   have hia2 : i.toNat < a.length := by omega
   have hlb : ∀ k, j.toNat ≤ k → k < b.length → Op.bytesLess (pth a i.toNat) (pth b k) = true := fun k h1 h2 => by
    rw [beq_eq_false_iff_ne.2 (by omega : j ≠ ((b.length : Nat) : Int)), cond_false, decide_eq_true hia, cond_true] at ht
    by_cases e : k = j.toNat
    ·rw [e]; exact ht
    ·exact ES ht (ob.mono h2 (by omega))
   rw [w64 (by omega) (by omega)]
   refine ⟨⟨i0, hia⟩, hia2, by simp only [List.length_cons, List.length_nil]; omega, ⟨⟨by dsimp only; omega, by dsimp only; omega⟩, ⟨j0, j1⟩, ?_⟩, by dsimp only; omega⟩
   dsimp only
   rw [ea]
   exact g.push (fun u hu => g.la u hu _ (Nat.le_refl _) hia2) (by omega) (Nat.le_refl _) (fun u => by rw [exS hia2, or_assoc]) (fun k h1 h2 => oa.mono h2 (by omega)) hlb (by omega)
  ·subst hd
   have hjb : j < b.length := by
    rcases hij with h | h
    ·by_cases e : j = ((b.length : Nat) : Int)
     ·rw [beq_iff_eq.2 e] at hf; cases hf
     ·omega
    ·exact h
   have hjb2 : j.toNat < b.length := by omega
   rw [beq_eq_false_iff_ne.2 (by omega : j ≠ ((b.length : Nat) : Int)), cond_false] at hf
   refine Ar.mid (fun d => d = (cond (i == ((a.length : Nat) : Int)) true (Op.bytesLess (pth b j.toNat) (pth a i.toNat)))) ⟨fun _ => ⟨j0, hjb⟩, fun _ => hjb2, fun h2 => ⟨i0, hin h2⟩, fun h2 => by have := hin h2; omega, rfl, trivial⟩ ?_
   intro d hd
   refine Ar.mid (fun q => ((0 ≤ q.2.1 ∧ q.2.1 ≤ a.length) ∧ (0 ≤ q.2.2 ∧ q.2.2 ≤ b.length) ∧ Gath a b q.1 q.2.1.toNat q.2.2.toNat) ∧ (a.length - q.2.1).toNat + (b.length - q.2.2).toNat < (a.length - i).toNat + (b.length - j).toNat) ⟨fun ht => ?_, fun hf2 => ?_⟩ fun _ h => h
   ·subst hd
    have hla : ∀ k, i.toNat ≤ k → k < a.length → Op.bytesLess (pth b j.toNat) (pth a k) = true := fun k h1 h2 => by
     rw [beq_eq_false_iff_ne.2 (by omega : i ≠ ((a.length : Nat) : Int)), cond_false] at ht
     by_cases e : k = i.toNat
     ·rw [e]; exact ht
     ·exact ES ht (oa.mono h2 (by omega))
    rw [w64 (by omega) (by omega)]
    refine ⟨⟨j0, hjb⟩, hjb2, by simp only [List.length_cons, List.length_nil]; omega, ⟨⟨i0, i1⟩, ⟨by dsimp only; omega, by dsimp only; omega⟩, ?_⟩, by dsimp only; omega⟩
    dsimp only
    rw [eb]
    exact g.push (fun u hu => g.lb u hu _ (Nat.le_refl _) hjb2) (Nat.le_refl _) (by omega) (fun u => by rw [exS hjb2, or_left_comm]) hla (fun k h1 h2 => ob.mono h2 (by omega)) (by omega)
   ·subst hd
    have hia : i < a.length := by
     by_cases e : i = ((a.length : Nat) : Int)
     ·rw [beq_iff_eq.2 e] at hf2; cases hf2
     ·omega
    have hia2 : i.toNat < a.length := by omega
    rw [beq_eq_false_iff_ne.2 (by omega : i ≠ ((a.length : Nat) : Int)), cond_false] at hf2
    rw [decide_eq_true hia, cond_true] at hf
    have heq : pth a i.toNat = pth b j.toNat := by
     by_cases e : pth a i.toNat = pth b j.toNat
     ·exact e
     ·rcases JA e with h1 | h1
      ·rw [h1] at hf; cases hf
      ·rw [h1] at hf2; cases hf2
    rw [w64 (n := i + 1) (by omega) (by omega), w64 (n := j + 1) (by omega) (by omega)]
    refine ⟨⟨i0, hia⟩, hia2, by simp only [List.length_cons, List.length_nil]; omega, ⟨⟨by dsimp only; omega, by dsimp only; omega⟩, ⟨by dsimp only; omega, by dsimp only; omega⟩, ?_⟩, by dsimp only; omega⟩
    dsimp only
    rw [ea, eb]
    refine g.push (fun u hu => g.la u hu _ (Nat.le_refl _) hia2) (by omega) (by omega) (fun u => ?_) (fun k h1 h2 => oa.mono h2 (by omega)) (fun k h1 h2 => ?_) (by omega)
    ·rw [exS hia2, exS hjb2, ← heq]
     constructor
     ·rintro (h | h | h)
      ·exact .inl (.inl h)
      ·exact .inl (.inr h)
      ·exact .inr (.inr h)
     ·rintro ((h | h) | (h | h))
      ·exact .inl h
      ·exact .inr (.inl h)
      ·exact .inl h
      ·exact .inr (.inr h)
    ·show Op.bytesLess (pth a i.toNat) (pth b k) = true
     rw [heq]
     exact ob.mono h2 (by omega)
 ·have hi : ¬ i < a.length ∧ ¬ j < b.length := by
   rw [Bool.cond_eq_ite] at hc
   split at hc
   ·cases hc
   ·rename_i h1
    exact ⟨fun h => h1 (decide_eq_true h), of_decide_eq_false hc⟩
  rw [show i.toNat = a.length by omega, show j.toNat = b.length by omega] at g
  exact g
end Go.VS
