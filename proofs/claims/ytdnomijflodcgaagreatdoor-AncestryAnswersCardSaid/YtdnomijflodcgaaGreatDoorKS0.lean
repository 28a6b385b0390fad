/- Contracts of the functions. -/
import Derived.Test.YtdnomijflodcgaaGreatDoorFwD
import Derived.IntWalk
import Derived.Test.YtdnomijflodcgaaGreatDoorKGf0
import Derived.Test.YtdnomijflodcgaaGreatDoorKGf1
import Derived.Test.YtdnomijflodcgaaGreatDoorKGf2
import Derived.Lib.ItoaNum
set_option linter.unusedVariables false
set_option linter.unusedSimpArgs false
open List renaming getD_eq_getElem?_getD → Qa0, length_cons → Qa2, getElem?_eq_getElem → Qa4, length_nil → Qa5, length → Qa6, length_append → Qa7, take_of_length_le → Qa8, length_take → Qa9, mem_cons_self → Qb0, length_set → Qb1, mem_singleton_self → Qb2, mem_cons_of_mem → Qb3, getElem?_of_mem → Qb7, count_append → Qb8, mem_singleton → Qc1, count_le_length → Qc2, map_append → Qc3, length_filter_le → Qc4, nodup_iff_pairwise_ne → Qc5, drop_eq_getElem_cons → Qc6, pairwise_iff_getElem → Qc7, filter_cons_of_pos → Qd0, filter_cons_of_neg → Qd1, take → Qd2, take_append_of_le_length → Qd3, take_add_one → Qd4, append_nil → Qd8, length_map → Qd9, filter_append → Qe0, range → Qe1, pairwise_map → Qe3, nodup_append → Qe4, drop_of_length_le → Qe5, map_cons → Qe6, sum_cons → Qe7, all_eq_true → Qe8, take_succ_eq_append_getElem → Qe9, drop → Qf0, mem_filter → Qf1, filter_nil → Qf2, drop_append_of_le_length → Qf3, filter_sublist → Qf4, isSuffixOf_iff_suffix → Qf6, any_eq_false → Qf7, filter_congr → Qf8, getElem?_append_left → Qf9, cons_append → Qg0, set_eq_of_length_le → Qg1, length_erase_of_mem → Qg2, take_length → Qg3, getElem?_take_of_lt → Qg4, getD → Qg6, count_cons → Qg8, mem_append → Qg9, length_pos_of_mem → Qh0, replicate → Qh1, count_cons_of_ne → Qh2, take_append_drop → Qh3, mem_append_right → Qh4, drop_eq_nil_iff → Qh5, count_cons_self → Qh6, mem_erase_of_ne → Qh7, mem_of_mem_take → Qh8, mem_append_left → Qh9, all_cons → Qi0
open Int renaming le_refl → Qa1, natCast_nonneg → Qa3, toNat → Qb9, tmod_eq_emod_of_nonneg → Qd6, fdiv → Qf5
open BitVec renaming ofInt → Qb4, toNat → Qd5
open Bool renaming cond_eq_ite → Qb5, and_eq_true → Qc9, eq_false_iff → Qe2, not_inj → Qg5, or_eq_true → Qg7
open Option renaming getD_some → Qb6, isSome_some → Qi1
open Nat renaming le_trans → Qc0, le_refl → Qc8, zero_le → Qd7
open Option.some renaming inj → Qi2
namespace Go.VS
theorem Ad.of {D : Type} {body : (D → Prop) → Prop} {rest : D → Prop} (h : body rest) : Ad body rest := ⟨rest, h, fun _ h => h⟩
theorem Ad.mid {D : Type} {body : (D → Prop) → Prop} {rest : D → Prop} (J : D → Prop) (h : body J) (h2 : ∀ d, J d → rest d) : Ad body rest := ⟨J, h, h2⟩
theorem AF.of {D : Type} {x : D} {body : D → (D → Prop) → Prop} (I : D → Prop) (m : D → Nat) (h0 : I x) (hs : ∀ d, I d → body d fun d' => I d' ∧ m d' < m d) : AF x body := by
 refine ⟨fun n d => I d ∧ m d = n, ⟨_, h0, rfl⟩, ?_⟩; rintro n d ⟨hI, rfl⟩
 have : (fun d' => ∃ k, k < m d ∧ I d' ∧ m d' = k) = fun d' => I d' ∧ m d' < m d := by
  funext d'
  exact propext ⟨fun ⟨k, h1, h2, h3⟩ => ⟨h2, by omega⟩, fun ⟨h1, h2⟩ => ⟨_, h2, h1, rfl⟩⟩
 rw [this]; exact hs d hI
theorem Fn.to {P : Pg} {nm : String} {S : Sig} {x : DP S.ps} {K K' : DP S.rs → DP (ptrs S.ps) → Prop} (h : Fn P nm S x K) (hk : ∀ d e, K d e → K' d e) : Fn P nm S x K' := h.mono hk
theorem w64 {n : Int} (h1 : -9223372036854775808 ≤ n) (h2 : n ≤ 9223372036854775807) : IntKind.i64.wrap n = n := by rw [IntKind.wrap_i64]; omega
theorem AfH {n : Int} (h1 : 0 ≤ n) (h2 : n ≤ 18446744073709551615) : IntKind.u64.wrap n = n := by rw [IntKind.wrap_u64]; omega
theorem getD_eq {α : Type} {l : List α} {i : Nat} {d : α} (h : i < l.length) : l.getD i d = l[i] := by simp [Qa0, Qa4 h]
theorem Br {α : Type} {l : List α} {i : Nat} {d : α} (h : i < l.length) : l.getD i d ∈ l := by rw [getD_eq h]; exact List.getElem_mem h
theorem E4 {α : Type} {l : List α} {i j : Nat} {x d : α} (h : i < l.length) : (l.set i x).getD j d = if i = j then x else l.getD j d := by
 simp only [Qa0, List.getElem?_set]; split
 ·rename_i e; subst e; simp [h]
 ·rfl
theorem Oo {α : Type} {l m : List α} {i : Nat} {d : α} (h : i < l.length) : (l ++ m).getD i d = l.getD i d := by
 simp [Qa0, Qf9 h]
theorem Qz {α : Type} {l : List α} {x d : α} : (l ++ [x]).getD l.length d = x := by
 simp [Qa0]
theorem EC {α : Type} {n i : Nat} {x d : α} (h : i < n) : (Qh1 n x).getD i d = x := by
 simp [Qa0, h]
theorem Vd {α : Type} (d : α) {l m : List α} (h : l.length = m.length) (hi : ∀ i, i < l.length → l.getD i d = m.getD i d) : l = m := by
 refine List.ext_getElem h fun i h1 h2 => ?_
 have := hi i h1
 rwa [getD_eq h1, getD_eq h2] at this
variable {P : Pg}
@[irreducible] def F8 (a n : Int) : Int := IntKind.i64.wrap (Int.tmod (IntKind.u64.wrap a) (IntKind.u64.wrap n))
theorem Tt (n : Int) : 0 ≤ IntKind.u64.wrap n ∧ IntKind.u64.wrap n ≤ 18446744073709551615 := by rw [IntKind.wrap_u64]; omega
theorem EE {a n : Int} (h1 : 1 ≤ n) (h2 : n ≤ 9223372036854775807) : 0 ≤ F8 a n ∧ F8 a n < n := by
 unfold F8; rw [AfH (n := n) (by omega) (by omega)]; have h := Tt a; rw [Qd6 h.1]; have e1 := Int.emod_nonneg (IntKind.u64.wrap a) (show n ≠ 0 by omega); have e2 := Int.emod_lt_of_pos (IntKind.u64.wrap a) (show 0 < n by omega); rw [w64 (by omega) (by omega)]; exact ⟨e1, e2⟩
def Jj (P : Pg) : Prop := ∀ x : Int × Int, 1 ≤ x.2 → x.2 ≤ 9223372036854775807 → Fn P zS1 Bt x fun d _ => d = F8 x.1 x.2
theorem AeS (h : Has P Lb) : Jj P := by
 intro x h1 h2; refine XD h ?_; unfold Sn; exact ⟨by rw [AfH (by omega) (by omega)]; omega, by unfold F8; rfl⟩
theorem Jj.at (h : Jj P) {a n : Int} (h1 : 1 ≤ n) (h2 : n ≤ 9223372036854775807) {K : Int → Unit → Prop} (hk : K (F8 a n) ()) : Fn P zS1 Bt (a, n) K := (h (a, n) h1 h2).to fun (d : Int) e hd => by
 have hd : d = F8 a n := hd; subst hd; exact hk
abbrev Bs := List UInt8
def spN (acc : Bs) : Bs → List Bs
 | [] => [acc]
 | b :: r => if b = 47 then acc :: spN [] r else spN (acc ++ [b]) r
def FD (n : Bs) : Bool := !(n == [] || n == [46] || n == [46, 46])
def CD (s : Bs) : Int := if s.length > 200 ∨ (0 : UInt8) ∈ s then 210 else if (spN [] s).all FD then 0 else 210
def Fu (P : Pg) : Prop := ∀ s : Bs, s.length ≤ 140737488351232 → Fn P AdW DR s fun (d : Int) _ => d = CD s
theorem WD : ∀ (l acc r : Bs), (∀ b ∈ l, b ≠ 47) → spN acc (l ++ 47 :: r) = (acc ++ l) :: spN [] r
 | [], acc, r, h => by rw [List.nil_append, spN, if_pos rfl]; simp
 | b :: l, acc, r, h => by
  rw [Qg0, spN, if_neg (h b (Qb0 ..)), WD l _ r fun c hc => h c (Qb3 _ hc)]; simp
theorem Ab0 : ∀ (l acc : Bs), (∀ b ∈ l, b ≠ 47) → spN acc l = [acc ++ l]
 | [], acc, h => by simp [spN]
 | b :: l, acc, h => by
  rw [spN, if_neg (h b (Qb0 ..)), Ab0 l _ fun c hc => h c (Qb3 _ hc)]; simp
theorem Ad1 : ∀ s : Bs, (∀ b ∈ s, b ≠ 47) ∨ ∃ l r, s = l ++ 47 :: r ∧ ∀ b ∈ l, b ≠ 47
 | [] => .inl (by simp)
 | b :: s => by
  by_cases hb : b = 47
  ·subst hb; exact .inr ⟨[], s, rfl, by simp⟩
  ·rcases Ad1 s with h | ⟨l, r, rfl, h⟩
   ·refine .inl fun c hc => ?_
    rcases List.mem_cons.1 hc with rfl | hc
    ·exact hb
    ·exact h c hc
   ·refine .inr ⟨b :: l, r, rfl, fun c hc => ?_⟩
    rcases List.mem_cons.1 hc with rfl | hc
    ·exact hb
    ·exact h c hc
abbrev Bh := Bs × Bs
def D0 : List Bh → Bs → Option Bs
 | [], _ => none
 | f :: r, p => match D0 r p with
  | some v => some v
  | none => if p = f.1 then some f.2 else none
def Y5 (l : List Bh) (p : Bs) : Bool := (Qe1 p.length).any fun i => (D0 l (p.take i)).isSome && (p.getD i 0 == 47)
def QT (l : List Bh) : Bool := (Qe1 l.length).all fun i => (i == 0 || Op.bytesLess (l.getD (i - 1) ([], [])).1 (l.getD i ([], [])).1) && !Y5 l (l.getD i ([], [])).1
def L7 (P : Pg) : Prop := ∀ l : List Bh, l.length ≤ 1000000 → (∀ f ∈ l, f.1.length ≤ 140737488351232 ∧ f.2.length ≤ 140737488351232) → Fn P "mergelens/tree.ordered" Ft l fun (d : Bool) _ => d = QT l
theorem AdF (acc r : Bs) : spN acc (47 :: r) = acc :: spN [] r := by rw [spN, if_pos rfl]
theorem AdG {b : UInt8} (h : b ≠ 47) (acc r : Bs) : spN acc (b :: r) = spN (acc ++ [b]) r := by rw [spN, if_neg h]
theorem Sy {s : Bs} {i : Nat} (h : i < s.length) : s.drop i = s.getD i 0 :: s.drop (i + 1) := by
 rw [Qc6 h, Qa0, Qa4 h, Qb6]
theorem ON {s : Bs} {i : Nat} (h : i < s.length) : s.take (i + 1) = s.take i ++ [s.getD i 0] := by
 rw [Qd4, Qa4 h, Qa0, Qa4 h]; rfl
theorem AcT {s : Bs} {i : Nat} (h : i < s.length) : Qf0 i (Qd2 (i + 1) s) = [s.getD i 0] := by
 rw [ON h, Qf3 (by rw [Qa9]; omega), List.drop_eq_nil_of_le (by rw [Qa9]; omega)]
 rfl
theorem byI (b c : UInt8) : (((b.toNat : Nat) : Int) == ((c.toNat : Nat) : Int)) = (b == c) := by
 by_cases h : b = c
 ·subst h; simp
 ·rw [show (b == c) = false from beq_eq_false_iff_ne.2 h, beq_eq_false_iff_ne]; intro e; exact h (UInt8.toNat_inj.1 (by omega))
theorem by0 (b : UInt8) : (((b.toNat : Nat) : Int) == (0 : Int)) = (b == 0) := byI b 0
theorem Afb (b : UInt8) : (((b.toNat : Nat) : Int) == (47 : Int)) = (b == 47) := byI b 47
theorem UW (n : Bs) : (cond (cond (n == ([] : Bs)) true (n == ([46] : Bs))) true (n == ([46, 46] : Bs))) = !FD n := by
 unfold FD
 cases n == ([] : Bs) <;> cases n == ([46] : Bs) <;> cases n == ([46, 46] : Bs) <;> rfl
theorem V9 {s : Bs} (h : (spN [] s).all FD = false) : CD s = 210 := by
 unfold CD; split
 ·rfl
 ·rw [if_neg (by rw [h]; simp)]
def EY (P : Pg) : Prop := ∀ s : Bs, s.length ≤ 140737488351232 → Fn P Aax BX s fun (d : Int) _ => d = CD s
theorem Sg (h : Has P Et) : EY P := by
 intro s hs; refine Me h ?_; unfold H4; refine ⟨fun hc => ?_, fun hc => ?_⟩
 ·rw [Qb5] at hc; split at hc
  ·rename_i h1; have h1 := of_decide_eq_true h1; obtain rfl : s = [] := List.length_eq_zero_iff.1 (by omega); decide
  ·have h2 := of_decide_eq_true hc; unfold CD; rw [if_pos (.inl (by omega))]
 have hl : 1 ≤ s.length ∧ s.length ≤ 200 := by
  rw [Qb5] at hc; split at hc
  ·cases hc
  ·rename_i h1; have h2 := of_decide_eq_false hc
   have h1 : ¬ ((s.length : Int) < 1) := fun h => h1 (decide_eq_true h)
   omega
 clear hc
 refine Ad.mid (fun _ => CD s = 0) ?_ fun _ h => h.symm
 refine AF.of (fun q => (0 ≤ q.2.2 ∧ q.2.2 ≤ s.length + 1 ∧ (q.2.1.length : Int) ≤ q.2.2) ∧ (∀ b ∈ s.take q.2.2.toNat, b ≠ 0) ∧ (spN [] s).all FD = if q.2.2 ≤ s.length then (spN q.2.1 (s.drop q.2.2.toNat)).all FD else true) (fun q => (s.length + 1 - q.2.2).toNat) ⟨⟨Qa1 _, by dsimp only; omega, by simp⟩, by simp, by simp⟩ ?_
 rintro ⟨q1, nm, i⟩ ⟨⟨i0, i1, hnl⟩, hz, hal⟩; dsimp only at i0 i1 hnl hz hal ⊢
 have e1 : (i + 1).toNat = i.toNat + 1 := by omega
 refine ⟨fun hi => ?_, fun hi => ?_⟩
 ·have hi := of_decide_eq_true hi; rw [if_pos hi] at hal; refine Ad.mid (fun q => (q.2.length : Int) ≤ i + 1 ∧ (∀ b ∈ s.take (i.toNat + 1), b ≠ 0) ∧ (spN [] s).all FD = if i + 1 ≤ s.length then (spN q.2 (s.drop (i.toNat + 1))).all FD else true) ?_ ?_
  ·by_cases hlt : i < s.length
   ·have hn : i.toNat < s.length := by omega
    rw [show decide (i < ((Qa6 s : Nat) : Int)) = true from decide_eq_true hlt, w64 (n := i + 1) (by omega) (by omega), e1]; simp only [cond_true]; rw [by0, show ((((UInt8.toNat (Qg6 s i.toNat 0) : Nat) : Int) != 47)) = !(Qg6 s i.toNat 0 == 47) from by rw [bne, Afb]]; rw [Sy hn] at hal; rw [if_pos (by omega), ON hn]; generalize hb : s.getD i.toNat 0 = b at hal ⊢
    have hz2 : b ≠ 0 → ∀ c ∈ s.take i.toNat ++ [b], c ≠ 0 := fun hb0 c hc => by
     rcases List.mem_append.1 hc with hc | hc
     ·exact hz c hc
     ·rw [List.mem_singleton.1 hc]; exact hb0
    refine ⟨fun _ => ⟨i0, hlt⟩, fun h0 => ?_, fun h0 => ⟨fun _ => ⟨i0, hlt⟩, fun h4 => ?_, fun h4 => ?_⟩⟩
    ·have h0 : b = 0 := eq_of_beq h0; unfold CD; rw [if_pos (.inr (by rw [← h0, ← hb]; exact Br hn))]
    ·have h0 : b ≠ 0 := beq_eq_false_iff_ne.1 h0
     have h4 : b ≠ 47 := by simpa using h4
     rw [show Qf0 i.toNat (s.take i.toNat ++ [b]) = [b] from by rw [← hb, ← ON hn, AcT hn]]; refine ⟨⟨i0, by omega, by omega⟩, by simp only [Qa2, Qa5]; omega, ?_, hz2 h0, ?_⟩
     ·rw [Qa7]; simp only [Qa2, Qa5]; omega
     ·rw [hal, AdG h4]
    ·have h0 : b ≠ 0 := beq_eq_false_iff_ne.1 h0
     have h4 : b = 47 := by simpa using h4
     subst h4; rw [AdF, Qi0] at hal; rw [UW]; refine ⟨fun hg => ?_, fun hg => ⟨by simp; omega, hz2 h0, ?_⟩⟩
     ·have hg : FD nm = false := by simpa using hg
      exact (V9 (by rw [hal, hg]; rfl)).symm
     ·have hg : FD nm = true := by simpa using hg
      rw [hal, hg, Bool.true_and, if_pos (by omega)]
   ·have hn : i.toNat = s.length := by omega
    rw [show decide (i < ((Qa6 s : Nat) : Int)) = false from decide_eq_false hlt]; simp only [cond_false]; rw [hn, List.drop_length, spN, Qi0, List.all_nil, Bool.and_true] at hal; rw [UW]; refine ⟨fun h => (nomatch h), fun h => (nomatch h), fun _ => ⟨fun h => (nomatch h), fun h => (nomatch h), fun _ => ⟨fun hg => ?_, fun hg => ⟨by simp; omega, ?_, ?_⟩⟩⟩⟩
    ·have hg : FD nm = false := by simpa using hg
     exact (V9 (by rw [hal, hg])).symm
    ·intro c hc; rw [Qa8 (by omega)] at hc; refine hz c ?_; rw [Qa8 (by omega)]; exact hc
    ·have hg : FD nm = true := by simpa using hg
     rw [if_neg (by omega), hal, hg]
  ·rintro ⟨q1', nm'⟩ ⟨h1, h2, h3⟩; dsimp only at h1 h2 h3 ⊢; rw [w64 (by omega) (by omega), e1]; exact ⟨⟨⟨by omega, by omega, h1⟩, h2, h3⟩, by omega⟩
 ·have hi := of_decide_eq_false hi; rw [if_neg hi] at hal; rw [Qa8 (by omega)] at hz; unfold CD; rw [if_neg (by rintro (h1 | h1); omega; exact hz 0 h1 rfl), if_pos hal]
theorem Fu.at (h : Fu P) {s : Bs} (hs : s.length ≤ 140737488351232) {K : Int → Unit → Prop} (hk : K (CD s) ()) : Fn P AdW DR s K :=
 (h s hs).to fun (d : Int) _ hd => by
  have hd : d = CD s := hd; subst hd; exact hk
theorem EY.at (h : EY P) {s : Bs} (hs : s.length ≤ 140737488351232) {K : Int → Unit → Prop} (hk : K (CD s) ()) : Fn P Aax BX s K :=
 (h s hs).to fun (d : Int) _ hd => by
  have hd : d = CD s := hd; subst hd; exact hk
@[irreducible] def atX (raw : List Int) (k : Int) : Int :=
 if ((Qa6 raw : Nat) : Int) > 0 then (IntKind.u64.wrap ((Qd5 (Qb4 IntKind.u64.bits (IntKind.u64.wrap ((IntKind.u64.wrap (IntKind.i64.wrap (k + (1 : Int)))) * (11400714819323198485 : Int))) ^^^ Qb4 IntKind.u64.bits (IntKind.u64.wrap (Qg6 raw (Qb9 (Int.tmod k ((Qa6 raw : Nat) : Int))) (0 : Int)))) : Nat) : Int))
 else (IntKind.u64.wrap ((IntKind.u64.wrap (IntKind.i64.wrap (k + (1 : Int)))) * (11400714819323198485 : Int)))
@[irreducible] def atY (d2 : Int) : Int := IntKind.u64.wrap ((Qd5 (Qb4 IntKind.u64.bits (IntKind.u64.wrap ((IntKind.u64.wrap ((Qd5 (Qb4 IntKind.u64.bits d2 ^^^ Qb4 IntKind.u64.bits (Qf5 d2 (2 ^ (min (Qb9 (31 : Int)) IntKind.u64.bits)))) : Nat) : Int)) * (13787848793156543929 : Int))) ^^^ Qb4 IntKind.u64.bits (Qf5 (IntKind.u64.wrap ((IntKind.u64.wrap ((Qd5 (Qb4 IntKind.u64.bits d2 ^^^ Qb4 IntKind.u64.bits (Qf5 d2 (2 ^ (min (Qb9 (31 : Int)) IntKind.u64.bits)))) : Nat) : Int)) * (13787848793156543929 : Int))) (2 ^ (min (Qb9 (29 : Int)) IntKind.u64.bits)))) : Nat) : Int)
@[irreducible] def atF (raw : List Int) (k : Int) : Int := IntKind.i64.wrap (Qf5 (atY (atX raw k)) (2 ^ (min (Qb9 (1 : Int)) IntKind.u64.bits)))
theorem Zq (raw : List Int) (k : Int) : 0 ≤ atF raw k ∧ atF raw k ≤ 9223372036854775807 := by
 unfold atF
 have e : ((2 : Int) ^ (min (Qb9 (1 : Int)) IntKind.u64.bits)) = 2 := by decide
 rw [e]
 have h := Tt ((Qd5 (Qb4 IntKind.u64.bits (IntKind.u64.wrap ((IntKind.u64.wrap ((Qd5 (Qb4 IntKind.u64.bits (atX raw k) ^^^ Qb4 IntKind.u64.bits (Qf5 (atX raw k) (2 ^ (min (Qb9 (31 : Int)) IntKind.u64.bits)))) : Nat) : Int)) * (13787848793156543929 : Int))) ^^^ Qb4 IntKind.u64.bits (Qf5 (IntKind.u64.wrap ((IntKind.u64.wrap ((Qd5 (Qb4 IntKind.u64.bits (atX raw k) ^^^ Qb4 IntKind.u64.bits (Qf5 (atX raw k) (2 ^ (min (Qb9 (31 : Int)) IntKind.u64.bits)))) : Nat) : Int)) * (13787848793156543929 : Int))) (2 ^ (min (Qb9 (29 : Int)) IntKind.u64.bits)))) : Nat) : Int)
 have e2 : 0 ≤ atY (atX raw k) ∧ atY (atX raw k) ≤ 18446744073709551615 := by unfold atY; exact h
 clear h; have h := e2; clear e2; generalize atY (atX raw k) = u at h ⊢; rw [Int.fdiv_eq_ediv_of_nonneg u (by omega)]; rw [w64 (by omega) (by omega)]; omega
def LC (P : Pg) : Prop := ∀ x : List Int × Int, 0 ≤ x.2 → Fn P zS0 Ba x fun d _ => d = atF x.1 x.2
theorem AfA (h : Has P ML) : LC P := by
 intro x h1; refine ZK h ?_; unfold UN
 refine Ad.mid (fun d => d = atX x.1 x.2) ⟨fun hc => ?_, fun hc => ?_⟩ fun d hd => ⟨by decide, by decide, by decide, ?_⟩
 ·have hc : ((Qa6 x.1 : Nat) : Int) > 0 := of_decide_eq_true hc; have e1 : (Int.tmod x.2 ((Qa6 x.1 : Nat) : Int)) = x.2 % (Qa6 x.1 : Nat) := Qd6 h1; have e2 := Int.emod_nonneg x.2 (show ((Qa6 x.1 : Nat) : Int) ≠ 0 by omega); have e3 := Int.emod_lt_of_pos x.2 hc; refine ⟨by omega, by omega, by omega, ?_⟩; unfold atX; rw [if_pos hc]
 ·have hc : ¬ ((Qa6 x.1 : Nat) : Int) > 0 := of_decide_eq_false hc; unfold atX; rw [if_neg hc]
 ·subst hd; unfold atF atY; rfl
theorem LC.at (h : LC P) {raw : List Int} {k : Int} (h1 : 0 ≤ k) {K : Int → Unit → Prop} (hk : K (atF raw k) ()) : Fn P zS0 Ba (raw, k) K := (h (raw, k) h1).to fun (d : Int) e hd => by
 have hd : d = atF raw k := hd; subst hd; exact hk
def lnN (acc : Bs) : Bs → List Bs
 | [] => []
 | b :: r => if b = 10 ∨ r = [] then (acc ++ [b]) :: lnN [] r else lnN (acc ++ [b]) r
def lnF (s : Bs) : List Bs := lnN [] s
def Ji (P : Pg) : Prop := ∀ s : Bs, s.length ≤ 100000000 → Fn P Yx Cm s fun (d : List Bs) _ => d = lnF s
theorem AfC {s : Bs} {i : Nat} (h : i < s.length) : Qd2 (i + 1) s = Qd2 i s ++ [s.getD i 0] := by
 rw [Qd4, Qa4 h, Qa0, Qa4 h]; rfl
theorem Ym (h : Has P Gk) : Ji P := by
 intro s hs; refine Qo h ?_; unfold LL
 refine Ad.mid (fun q => q = lnF s) ?_ fun q hq => hq
 refine AF.of (fun q => 0 ≤ q.2.1 ∧ q.2.1 ≤ q.2.2 ∧ q.2.2 ≤ s.length ∧ (q.1.length : Int) ≤ q.2.2 ∧ q.1 ++ lnN (Qf0 q.2.1.toNat (Qd2 q.2.2.toNat s)) (s.drop q.2.2.toNat) = lnF s) (fun q => (s.length - q.2.2).toNat) ⟨by decide, by decide, by dsimp only; omega, by simp, by simp [lnF]⟩ ?_
 rintro ⟨o, f, i⟩ ⟨f0, f1, i1, ho, e⟩; dsimp only at f0 f1 i1 ho e ⊢; refine ⟨fun hc => ?_, fun hc => ?_⟩
 ·have hc := of_decide_eq_true hc; rw [w64 (n := i + 1) (by omega) (by omega)]
  have hi : i.toNat < s.length := by omega
  have hd : s.drop i.toNat = s.getD i.toNat 0 :: s.drop (i.toNat + 1) := by
   rw [Qc6 hi, Qa0, Qa4 hi, Qb6]
  have e1 : (i + 1).toNat = i.toNat + 1 := by omega
  have hdr : Qf0 f.toNat (Qd2 (i.toNat + 1) s) = Qf0 f.toNat (Qd2 i.toNat s) ++ [s.getD i.toNat 0] := by
   rw [AfC hi, Qf3 (by rw [Qa9]; omega)]
  rw [hd, lnN] at e
  have hnil : s.drop (i.toNat + 1) = [] ↔ i + 1 = s.length := by
   rw [Qh5]; omega
  refine Ad.mid (fun q => 0 ≤ q.2 ∧ q.2 ≤ i + 1 ∧ (q.1.length : Int) ≤ i + 1 ∧ q.1 ++ lnN (Qf0 q.2.toNat (Qd2 (i.toNat + 1) s)) (s.drop (i.toNat + 1)) = lnF s) ⟨⟨by omega, hc⟩, Ad.of ⟨fun hb => ?_, fun hb => ?_⟩⟩ ?_
  ·rw [if_pos (by
    simp at hb
    rcases hb with hb | hb
    ·refine Or.inl ?_; rw [Qa0]; exact UInt8.toNat_inj.1 (by rw [show (10 : UInt8).toNat = 10 from rfl]; omega)
    ·exact Or.inr (hnil.2 hb))] at e
   refine ⟨⟨f0, by omega, by omega⟩, by simp only [Qa2, Qa5]; omega, by dsimp only; omega, by dsimp only; omega, ?_, ?_⟩
   ·simp only [Qa7, Qa2, Qa5]; omega
   ·dsimp only; rw [e1, hdr, show Qf0 (i.toNat + 1) (Qd2 (i.toNat + 1) s) = [] by rw [Qh5, Qa9]; omega, ← e]
    simp only [List.append_assoc, List.singleton_append]
  ·rw [if_neg (by
    simp at hb; rintro (hh | hh)
    ·rw [Qa0] at hh; exact hb.1 (by rw [hh]; rfl)
    ·exact hb.2 (hnil.1 hh))] at e
   refine ⟨f0, by dsimp only; omega, by dsimp only; omega, ?_⟩
   dsimp only; rw [hdr]; exact e
  ·rintro ⟨o', f'⟩ ⟨k1, k2, k3, k4⟩; dsimp only at k1 k2 k3 k4 ⊢; exact ⟨⟨k1, k2, by omega, k3, by rw [e1]; exact k4⟩, by omega⟩
 ·have hc := of_decide_eq_false hc; rw [show i.toNat = s.length by omega, List.drop_length, lnN, Qd8] at e; exact e
def saN (acc : Bs) : Bs → List Bs
 | [] => [acc]
 | b :: r => if b = 10 then (acc ++ [b]) :: saN [] r else saN (acc ++ [b]) r
def saF (s : Bs) : List Bs := saN [] s
def M6 (s : Bs) : Bool := ([10] : Bs).isSuffixOf s
def Hj (P : Pg) : Prop := ∀ s : Bs, Fn P "strings.Count" Ed (s, [10]) fun (d : Int) _ => d = ((s.count 10 : Nat) : Int)
def Gz (P : Pg) : Prop := ∀ s : Bs, s.length ≤ 140737488351232 → Fn P "strings.HasSuffix" C4 (s, [10]) fun (d : Bool) _ => d = M6 s
def GJ (P : Pg) : Prop := ∀ s : Bs, s.length ≤ 4000000000 → Fn P "strings.SplitAfter" Gy (s, [10]) fun (d : List Bs) _ => d = saF s
theorem Hj.at (h : Hj P) {s : Bs} {K : Int → Unit → Prop} (hk : K ((s.count 10 : Nat) : Int) ()) : Fn P "strings.Count" Ed (s, [10]) K :=
 (h s).to fun (d : Int) _ hd => by
  have hd : d = ((s.count 10 : Nat) : Int) := hd; subst hd; exact hk
theorem Gz.at (h : Gz P) {s : Bs} (hs : s.length ≤ 140737488351232) {K : Bool → Unit → Prop} (hk : K (M6 s) ()) : Fn P "strings.HasSuffix" C4 (s, [10]) K :=
 (h s hs).to fun (d : Bool) _ hd => by
  have hd : d = M6 s := hd; subst hd; exact hk
theorem GJ.at (h : GJ P) {s : Bs} (hs : s.length ≤ 4000000000) {K : List Bs → Unit → Prop} (hk : K (saF s) ()) : Fn P "strings.SplitAfter" Gy (s, [10]) K :=
 (h s hs).to fun (d : List Bs) _ hd => by
  have hd : d = saF s := hd; subst hd; exact hk
theorem Og (l : Bs) (b : UInt8) : M6 (l ++ [b]) = (b == 10) := by
 unfold M6
 by_cases h : b = 10
 ·subst h; rw [show ((10 : UInt8) == 10) = true from rfl, Qf6]; exact List.suffix_append ..
 ·rw [show (b == 10) = false by simpa using h, Qe2]; intro hs; rw [Qf6] at hs; obtain ⟨t, ht⟩ := hs; have := congrArg List.getLast? ht; simp at this; exact h this.symm
theorem Ue : ∀ (s acc : Bs), (lnN acc s).length = s.count 10 + (if s ≠ [] ∧ M6 s = false then 1 else 0)
 | [], acc => by rw [if_neg (by simp)]; rfl
 | b :: r, acc => by
  rw [lnN]
  rcases List.eq_nil_or_concat r with rfl | ⟨l, c, rfl⟩
  ·rw [if_pos (.inr rfl), show [b] = ([] : Bs) ++ [b] from rfl, Og]
   by_cases hb : b = 10
   ·subst hb; rfl
   ·rw [show (b == 10) = false by simpa using hb]; simp [lnN, hb]
  ·have e1 : M6 (b :: l.concat c) = M6 (l.concat c) := by
    rw [List.concat_eq_append, ← Qg0, Og, Og]
   have hne : l.concat c ≠ [] := by simp
   by_cases hb : b = 10
   ·subst hb; rw [if_pos (.inl rfl), Qa2, Ue (l.concat c) [], e1, Qh6]; simp only [ne_eq, hne, not_false_eq_true, true_and, List.cons_ne_nil]; omega
   ·rw [if_neg (by rintro (h1 | h1); exact hb h1; exact hne h1), Ue (l.concat c) _, e1, Qh2 (by simpa using hb)]
    simp only [ne_eq, hne, not_false_eq_true, true_and, List.cons_ne_nil]
theorem Y1 (s : Bs) : (lnF s).length = s.count 10 + (if s ≠ [] ∧ M6 s = false then 1 else 0) := Ue s []
def N1 (P : Pg) : Prop := ∀ s : Bs, s.length ≤ 140737488351232 → Fn P Aco DD s fun (d : Bool) _ => d = M6 s
theorem Aam (h : Has P GY) (hS : Gz P) : N1 P := by
 intro s hs; refine RJ h ?_; unfold MU; exact hS.at hs rfl
def GK (s : Bs) : Int := if s.length > 1048576 ∨ (lnF s).length > 4096 then 1 else 0
def N0 (P : Pg) : Prop := ∀ s : Bs, s.length ≤ 140737488351232 → Fn P Acp DC s fun (d : Int) _ => d = GK s
theorem Aal (h : Has P GX) (hC : Hj P) (hE : N1 P) : N0 P := by
 intro s hs; refine RI h ?_; unfold MT; refine hC.at ?_; have hcl := Qc2 (a := (10 : UInt8)) (l := s); have hl := Y1 s; refine Ad.mid (fun d => (!(s == ([] : Bs))) = true → d = M6 s) ⟨fun _ => (hE s hs).to fun (d : Bool) _ hd _ => hd, (by intro hc hc2; rw [hc] at hc2; cases hc2), trivial⟩ ?_
 intro d hd
 have hfin : ∀ n : Int, n = ((lnF s).length : Nat) → ((cond (decide (((Qa6 s : Nat) : Int) > (1048576 : Int))) true (decide (n > (4096 : Int)))) = true → (1 : Int) = GK s) ∧ ((cond (decide (((Qa6 s : Nat) : Int) > (1048576 : Int))) true (decide (n > (4096 : Int)))) = false → (0 : Int) = GK s) := by
  rintro n rfl; unfold GK
  by_cases h1 : s.length > 1048576
  ·have e1 : decide (((Qa6 s : Nat) : Int) > (1048576 : Int)) = true := decide_eq_true (by omega); rw [e1, if_pos (.inl h1)]; exact ⟨fun _ => rfl, fun h => nomatch h⟩
  ·have e1 : decide (((Qa6 s : Nat) : Int) > (1048576 : Int)) = false := decide_eq_false (by omega); rw [e1, cond_false]
   by_cases h2 : (lnF s).length > 4096
   ·rw [if_pos (.inr h2), show decide ((((lnF s).length : Nat) : Int) > 4096) = true from decide_eq_true (by omega)]; exact ⟨fun _ => rfl, fun h => nomatch h⟩
   ·rw [if_neg (by omega), show decide ((((lnF s).length : Nat) : Int) > 4096) = false from decide_eq_false (by omega)]; exact ⟨(fun h => nomatch h), fun _ => rfl⟩
 refine Ad.mid (fun n => n = ((lnF s).length : Nat)) ⟨fun hc => ?_, fun hc => ?_⟩ hfin
 ·by_cases hn : s = []
  ·subst hn; cases hc
  ·have hb : (!(s == ([] : Bs))) = true := by simpa using hn
   rw [hb, cond_true] at hc
   have he : M6 s = false := by rw [← hd hb]; simpa using hc
   rw [w64 (by omega) (by omega), hl, if_pos ⟨hn, he⟩]; omega
 ·by_cases hn : s = []
  ·subst hn; rfl
  ·have hb : (!(s == ([] : Bs))) = true := by simpa using hn
   rw [hb, cond_true] at hc
   have he : M6 s = true := by rw [← hd hb]; simpa using hc
   rw [hl, if_neg (by rw [he]; simp)]
   omega
theorem N9 : ∀ x : Bs, Op.bytesLess x x = false
 | [] => rfl
 | a :: x => by
  unfold Op.bytesLess; rw [N9 x]; simp
theorem P6 : ∀ {x y z : Bs}, Op.bytesLess x y = true → Op.bytesLess y z = true → Op.bytesLess x z = true
 | x, y, [], _, h2 => by unfold Op.bytesLess at h2; cases y <;> cases h2
 | x, [], c :: z, h1, _ => by unfold Op.bytesLess at h1; cases x <;> cases h1
 | [], b :: y, c :: z, _, _ => rfl
 | a :: x, b :: y, c :: z, h1, h2 => by
  unfold Op.bytesLess at h1 h2 ⊢; simp only [Qg7, Qc9, decide_eq_true_eq, beq_iff_eq] at h1 h2 ⊢
  rcases h1 with h1 | ⟨rfl, h1⟩
  ·rcases h2 with h2 | ⟨rfl, h2⟩
   ·exact .inl (UInt8.lt_trans h1 h2)
   ·exact .inl h1
  ·rcases h2 with h2 | ⟨rfl, h2⟩
   ·exact .inl h2
   ·exact .inr ⟨rfl, P6 h1 h2⟩
theorem Sv : ∀ (x : Bs) (b : UInt8) (r : Bs), Op.bytesLess x (x ++ b :: r) = true
 | [], b, r => rfl
 | a :: x, b, r => by
  rw [Qg0]; unfold Op.bytesLess; rw [Sv x b r]; simp
theorem AcP {p : Bs} {j : Nat} (h : j < p.length) : Op.bytesLess (p.take j) p = true := by
 have := Sv (p.take j) (p.getD j 0) (p.drop (j + 1))
 rwa [← Sy h, Qh3] at this
def FZ (a b : Bs) : Bool := cond (cond (decide (((Qa6 b : Nat) : Int) > ((Qa6 a : Nat) : Int))) ((Qd2 (Qb9 ((Qa6 a : Nat) : Int)) b) == a) false) (((UInt8.toNat (Qg6 b (Qb9 ((Qa6 a : Nat) : Int)) 0) : Nat) : Int) == (47 : Int)) false
theorem Sq {a b : Bs} : FZ a b = true ↔ a.length < b.length ∧ b.take a.length = a ∧ b.getD a.length 0 = 47 := by
 unfold FZ; rw [show Qb9 ((Qa6 a : Nat) : Int) = a.length from rfl, Afb]
 by_cases h : a.length < b.length
 ·rw [show decide (((Qa6 b : Nat) : Int) > ((Qa6 a : Nat) : Int)) = true from decide_eq_true (by omega), cond_true]
  by_cases h2 : b.take a.length = a
  ·rw [h2, show (a == a) = true from beq_self_eq_true a, cond_true]; simp [h]
  ·rw [show (Qd2 a.length b == a) = false from beq_eq_false_iff_ne.2 h2]; simp [h2]
 ·rw [show decide (((Qa6 b : Nat) : Int) > ((Qa6 a : Nat) : Int)) = false from decide_eq_false (by omega)]; simp [h]
theorem Li : ∀ (l : List Bh) (p : Bs), (D0 l p).isSome = true ↔ ∃ f ∈ l, f.1 = p
 | [], p => by simp [D0]
 | f :: r, p => by
  have ih := Li r p; rw [D0]
  cases hb : D0 r p with
  | some v =>
   rw [hb] at ih; simp only [Qi1, true_iff] at ih ⊢; obtain ⟨g, hg, e⟩ := ih; exact ⟨g, Qb3 _ hg, e⟩
  | none =>
   rw [hb] at ih; dsimp only
   by_cases hp : p = f.1
   ·rw [if_pos hp]; simp only [Qi1, true_iff]; exact ⟨f, Qb0 .., hp.symm⟩
   ·rw [if_neg hp]; simp only [Option.isSome_none, Bool.false_eq_true, false_iff]; rintro ⟨g, hg, e⟩
    rcases List.mem_cons.1 hg with rfl | hg
    ·exact hp e.symm
    ·have := ih.2 ⟨g, hg, e⟩; cases this
abbrev pth (l : List Bh) (i : Nat) : Bs := (l.getD i ([], [])).1
def V5 (l : List Bh) : Prop := ∀ i, i < l.length → ∀ k, k < i → Op.bytesLess (pth l k) (pth l i) = true ∧ FZ (pth l k) (pth l i) = false
theorem QU (l : List Bh) : QT l = true ↔ V5 l := by
 unfold QT; rw [Qe8]; constructor
 ·intro h
  have hadj : ∀ i, 0 < i → i < l.length → Op.bytesLess (pth l (i - 1)) (pth l i) = true := fun i h0 hi => by
   have := h i (List.mem_range.2 hi); simp only [Qc9, Qg7, beq_iff_eq] at this
   rcases this.1 with h1 | h1
   ·omega
   ·exact h1
  have hch : ∀ i, i < l.length → ∀ k, k < i → Op.bytesLess (pth l k) (pth l i) = true := by
   intro i
   induction i with
   | zero => intro _ k hk; omega
   | succ i ih =>
    intro hi k hk; have h1 := hadj (i + 1) (by omega) hi; rw [Nat.add_sub_cancel] at h1
    by_cases hki : k = i
    ·subst hki; exact h1
    ·exact P6 (ih (by omega) k (by omega)) h1
  intro i hi k hk; refine ⟨hch i hi k hk, ?_⟩; rw [Qe2]; intro ha; obtain ⟨a1, a2, a3⟩ := Sq.1 ha; have hn := h i (List.mem_range.2 hi); simp only [Qc9, Bool.not_eq_true'] at hn; have hn := hn.2; unfold Y5 at hn; rw [Qf7] at hn; refine hn (pth l k).length (List.mem_range.2 a1) ?_; rw [Qc9]
  refine ⟨(Li l _).2 ⟨l.getD k ([], []), Br (by omega), a2.symm⟩, beq_iff_eq.2 a3⟩
 ·intro h i hi; have hi := List.mem_range.1 hi; simp only [Qc9, Qg7, beq_iff_eq, Bool.not_eq_true']; refine ⟨?_, ?_⟩
  ·by_cases h0 : i = 0
   ·exact .inl h0
   ·exact .inr (h i hi (i - 1) (by omega)).1
  ·unfold Y5; rw [Qf7]; intro j hj hb; have hj : j < (pth l i).length := List.mem_range.1 hj; rw [Qc9] at hb; obtain ⟨hb1, hb2⟩ := hb; obtain ⟨f, hf, hfe⟩ := (Li l _).1 hb1; obtain ⟨m, hm⟩ := Qb7 hf; have hml : m < l.length := (List.getElem?_eq_some_iff.1 hm).1
   have hpm : pth l m = (pth l i).take j := by
    unfold pth; rw [Qa0, hm]; exact hfe
   have hlen : ((pth l i).take j).length = j := by rw [Qa9]; exact Nat.min_eq_left (by omega)
   rcases Nat.lt_trichotomy m i with h1 | h1 | h1
   ·have := (h i hi m h1).2; rw [Qe2] at this; refine this (Sq.2 ⟨by rw [hpm, hlen]; exact hj, by rw [hpm, hlen], by rw [hpm, hlen]; exact beq_iff_eq.1 hb2⟩)
   ·subst h1; have := congrArg Qa6 hpm; rw [hlen] at this; exact absurd hj (by rw [this]; exact Nat.lt_irrefl _)
   ·have h2 := (h m hml i h1).1; have h3 := AcP hj; rw [← hpm] at h3; have h4 := N9 (pth l i); rw [P6 h2 h3] at h4; cases h4
def Fm (l : List Bh) : Int :=
 if l.length > 200 then 1 else if l.all (fun f => CD f.1 == 0) = false then 210 else if QT l = false then 211 else if l.all (fun f => GK f.2 == 0) = false then 1 else 0
def Kw (l : List Bh) : Prop := l.length ≤ 1000000 ∧ ∀ f ∈ l, f.1.length ≤ 140737488351232 ∧ f.2.length ≤ 140737488351232
theorem Kw.at {l : List Bh} (h : Kw l) {i : Nat} (hi : i < l.length) : (l.getD i ([], [])).1.length ≤ 140737488351232 ∧ (l.getD i ([], [])).2.length ≤ 140737488351232 := h.2 _ (Br hi)
def Xd (P : Pg) : Prop := ∀ f : Bh, f.1.length ≤ 140737488351232 → Fn P Acg CL f fun (d : Bool) _ => d = (CD f.1 != 0)
theorem AeT (h : Has P Fp) (hC : Fu P) : Xd P := by
 intro f hf; refine Pj h ?_; unfold Kd; exact hC.at hf rfl
def Xe (P : Pg) : Prop := ∀ f : Bh, f.2.length ≤ 140737488351232 → Fn P Ach CN f fun (d : Bool) _ => d = (GK f.2 != 0)
theorem AeU (h : Has P Fq) (hC : N0 P) : Xe P := by
 intro f hf; refine Pk h ?_; unfold Ke; refine (hC _ hf).to ?_; rintro (d : Int) _ hd; have hd : d = GK f.2 := hd; rw [hd]
def Xf (P : Pg) : Prop := ∀ l : List Bh, Kw l → Fn P zS5 Aw (l, ()) fun (d : Int) _ => decide (d ≥ 0) = l.any fun f => CD f.1 != 0
theorem AaH {α : Type} {l : List α} {p : α → Bool} {i : Nat} {d : α} (hi : i < l.length) (h : p (l.getD i d) = true) : l.any p = true := List.any_eq_true.2 ⟨_, Br hi, h⟩
theorem AaJ {α : Type} {l : List α} {p : α → Bool} {d : α} (h : ∀ j, j < l.length → p (l.getD j d) = false) : l.any p = false := by
 rw [Qf7]; intro x hx; obtain ⟨j, hj⟩ := Qb7 hx; have hl : j < l.length := (List.getElem?_eq_some_iff.1 hj).1; have := h j hl; rw [Qa0, hj, Qb6] at this; rw [this]; simp
theorem AeV (h : Has P AY) (hC : Xd P) : Xf P := by
 intro l hl; refine Di h ?_; unfold B0; dsimp only
 refine Ad.mid (fun _ => (l.any fun f => CD f.1 != 0) = false) ?_ fun _ h => by rw [h]; rfl
 refine AF.of (fun q => (0 ≤ q.2 ∧ q.2 ≤ l.length) ∧ ∀ j, j < q.2.toNat → (CD (l.getD j ([], [])).1 != 0) = false) (fun q => (l.length - q.2).toNat) ⟨⟨Qa1 _, by dsimp only; omega⟩, fun j hj => absurd hj (by simp)⟩ ?_
 rintro ⟨q, i⟩ ⟨⟨i0, i1⟩, hq⟩; dsimp only at i0 i1 hq ⊢; have hln := hl.1; refine ⟨fun hi => ?_, fun hi => ?_⟩
 ·have hi := of_decide_eq_true hi
  have hi2 : i.toNat < l.length := by omega
  refine Ad.mid (fun _ => (CD (l.getD i.toNat ([], [])).1 != 0) = false) ⟨⟨i0, hi⟩, hi2, (hC _ (hl.at hi2).1).to ?_⟩ fun _ hn => ?_
  ·rintro (d : Bool) _ hd; have hd : d = _ := hd; subst hd; refine ⟨fun hb => ?_, fun hb => hb⟩; rw [AaH (d := ([], [])) hi2 hb, decide_eq_true (by omega)]
  ·rw [w64 (by omega) (by omega)]; refine ⟨⟨⟨by omega, by omega⟩, fun j hj => ?_⟩, by omega⟩
   by_cases hji : j = i.toNat
   ·subst hji; exact hn
   ·exact hq j (by omega)
 ·have hi := of_decide_eq_false hi
  exact AaJ (d := ([], [])) fun j hj => hq j (by omega)
def Xg (P : Pg) : Prop := ∀ l : List Bh, Kw l → Fn P zS5 Ax (l, ()) fun (d : Int) _ => decide (d ≥ 0) = l.any fun f => GK f.2 != 0
theorem AeW (h : Has P AZ) (hC : Xe P) : Xg P := by
 intro l hl; refine Dj h ?_; unfold B2; dsimp only
 refine Ad.mid (fun _ => (l.any fun f => GK f.2 != 0) = false) ?_ fun _ h => by rw [h]; rfl
 refine AF.of (fun q => (0 ≤ q.2 ∧ q.2 ≤ l.length) ∧ ∀ j, j < q.2.toNat → (GK (l.getD j ([], [])).2 != 0) = false) (fun q => (l.length - q.2).toNat) ⟨⟨Qa1 _, by dsimp only; omega⟩, fun j hj => absurd hj (by simp)⟩ ?_
 rintro ⟨q, i⟩ ⟨⟨i0, i1⟩, hq⟩; dsimp only at i0 i1 hq ⊢; have hln := hl.1; refine ⟨fun hi => ?_, fun hi => ?_⟩
 ·have hi := of_decide_eq_true hi
  have hi2 : i.toNat < l.length := by omega
  refine Ad.mid (fun _ => (GK (l.getD i.toNat ([], [])).2 != 0) = false) ⟨⟨i0, hi⟩, hi2, (hC _ (hl.at hi2).2).to ?_⟩ fun _ hn => ?_
  ·rintro (d : Bool) _ hd; have hd : d = _ := hd; subst hd; refine ⟨fun hb => ?_, fun hb => hb⟩; rw [AaH (d := ([], [])) hi2 hb, decide_eq_true (by omega)]
  ·rw [w64 (by omega) (by omega)]; refine ⟨⟨⟨by omega, by omega⟩, fun j hj => ?_⟩, by omega⟩
   by_cases hji : j = i.toNat
   ·subst hji; exact hn
   ·exact hq j (by omega)
 ·have hi := of_decide_eq_false hi
  exact AaJ (d := ([], [])) fun j hj => hq j (by omega)
def Xh (P : Pg) : Prop := ∀ l : List Bh, Kw l → Fn P zS6 Ar (l, ()) fun (d : Bool) _ => d = l.any fun f => CD f.1 != 0
theorem AeX (h : Has P AR) (hI : Xf P) : Xh P := by
 intro l hl; refine CY h ?_; unfold BO
 exact (hI l hl).to fun (d : Int) _ hd => hd
def Xi (P : Pg) : Prop := ∀ l : List Bh, Kw l → Fn P zS6 Au (l, ()) fun (d : Bool) _ => d = l.any fun f => GK f.2 != 0
theorem AeY (h : Has P AU) (hI : Xg P) : Xi P := by
 intro l hl; refine CZ h ?_; unfold BP
 exact (hI l hl).to fun (d : Int) _ hd => hd
theorem AaI {α : Type} (l : List α) (p : α → Int) : (l.any fun f => p f != 0) = !(l.all fun f => p f == 0) := by
 induction l with
 | nil => rfl
 | cons a l ih => rw [List.any_cons, Qi0, ih, Bool.not_and]; rfl
def Fw (P : Pg) : Prop := ∀ l : List Bh, Kw l → Fn P Yy CH l fun (d : Int) _ => d = Fm l
theorem UA (h : Has P Fo) (h1 : Xh P) (hO : L7 P) (h2 : Xi P) : Fw P := by
 intro l hl; refine LS h ?_; unfold Jl; unfold Fm
 refine Ad.mid (fun _ => l.length ≤ 200 ∧ l.all (fun f => CD f.1 == 0) = true ∧ QT l = true ∧ l.all (fun f => GK f.2 == 0) = true) ?_ fun _ hh => by
  obtain ⟨a1, a2, a3, a4⟩ := hh; rw [if_neg (by omega), if_neg (by rw [a2]; simp), if_neg (by rw [a3]; simp), if_neg (by rw [a4]; simp)]
 refine ⟨fun hc => ?_, fun hc => ?_⟩
 ·have hc := of_decide_eq_true hc; rw [if_pos (by omega)]
 have hc := of_decide_eq_false hc; rw [if_neg (by omega)]; refine (h1 l hl).to ?_; rintro (d : Bool) _ hd; have hd : d = _ := hd; rw [AaI l fun f => CD f.1] at hd; subst hd; refine ⟨fun hb => ?_, fun hb => ?_⟩
 ·rw [if_pos (by simpa using hb)]
 have hb : l.all (fun f => CD f.1 == 0) = true := by simpa using hb
 rw [if_neg (by rw [hb]; simp)]
 refine (hO l hl.1 hl.2).to ?_; rintro (d : Bool) _ hd; have hd : d = QT l := hd; subst hd; refine ⟨fun hb2 => ?_, fun hb2 => ?_⟩
 ·rw [if_pos (by simpa using hb2)]
 have hb2 : QT l = true := by simpa using hb2
 rw [if_neg (by rw [hb2]; simp)]
 refine (h2 l hl).to ?_; rintro (d : Bool) _ hd; have hd : d = _ := hd; rw [AaI l fun f => GK f.2] at hd; subst hd; refine ⟨fun hb3 => ?_, fun hb3 => ?_⟩
 ·rw [if_pos (by simpa using hb3)]
 have hb3 : l.all (fun f => GK f.2 == 0) = true := by simpa using hb3
 exact ⟨by omega, hb, hb2, hb3⟩
theorem Fw.at (h : Fw P) {l : List Bh} (hl : Kw l) {K : Int → Unit → Prop} (hk : K (Fm l) ()) : Fn P Yy CH l K :=
 (h l hl).to fun (d : Int) _ hd => by
  have hd : d = Fm l := hd; subst hd; exact hk
abbrev Ai := List Int × (Int × List Bh)
def A8 (g : List Ai) (c : Int) : List Int := (g.getD c.toNat ([], (0, []))).1
def inR (g : List Ai) (c : Int) : Prop := 0 ≤ c ∧ c < g.length
def Sm (g : List Ai) : Prop := ∀ c, inR g c → ∀ p ∈ A8 g c, inR g p
inductive Rch (g : List Ai) : Int → Int → Prop
 | refl (c : Int) : Rch g c c
 | step {c p x : Int} (h : p ∈ A8 g c) (t : Rch g p x) : Rch g c x
theorem Rch.trans {g : List Ai} {a b c : Int} (h : Rch g a b) (k : Rch g b c) : Rch g a c := by
 induction h with
 | refl => exact k
 | step h _ ih => exact .step h (ih k)
theorem Rch.snoc {g : List Ai} {a b p : Int} (h : Rch g a b) (k : p ∈ A8 g b) : Rch g a p := h.trans (.step k (.refl p))
theorem Rch.inR {g : List Ai} (hv : Sm g) {a b : Int} (h : Rch g a b) (ha : inR g a) : Go.VS.inR g b := by
 induction h with
 | refl => exact ha
 | step h _ ih => exact ih (hv _ ha _ h)
def inS (s : List Bool) (x : Int) : Prop := s.getD x.toNat false = true
def Pt (s t : List Bool) : Prop := s.length = t.length ∧ ∀ i, s.getD i false = true → t.getD i false = true
theorem Pt.refl (s : List Bool) : Pt s s := ⟨rfl, fun _ h => h⟩
theorem Pt.trans {s t u : List Bool} (h : Pt s t) (k : Pt t u) : Pt s u := ⟨h.1.trans k.1, fun i hi => k.2 i (h.2 i hi)⟩
theorem WN : ∀ {s t : List Bool}, Pt s t → s.count true ≤ t.count true ∧ (s.count true = t.count true → s = t)
 | [], [], _ => ⟨Qc8 _, fun _ => rfl⟩
 | [], _ :: _, h => by cases h.1
 | _ :: _, [], h => by cases h.1
 | a :: s, b :: t, h => by
  have hr : Pt s t := ⟨by have := h.1; simpa using this, fun i hi => by have := h.2 (i + 1); simp only [List.getD_cons_succ] at this; exact this hi⟩
  have h0 := h.2 0; simp only [List.getD_cons_zero] at h0; obtain ⟨h1, h2⟩ := WN hr; rw [Qg8, Qg8]
  cases a <;> cases b <;> simp at h0 ⊢
  ·exact ⟨h1, h2⟩
  ·exact ⟨by omega, by omega⟩
  ·exact ⟨h1, h2⟩
theorem Va : ∀ {s : List Bool}, s.length ≤ s.count true → ∀ i, i < s.length → s.getD i false = true
 | [], _, i, hi => absurd hi (Nat.not_lt_zero _)
 | a :: s, h, i, hi => by
  rw [Qg8] at h; have hc := Qc2 (a := true) (l := s); rw [Qa2] at h
  cases a with
  | false => simp at h; omega
  | true =>
   cases i with
   | zero => rfl
   | succ i =>
    simp only [beq_self_eq_true, if_true] at h; rw [List.getD_cons_succ]; exact Va (by omega) i (by simpa using hi)
theorem AbY {s : List Bool} {i : Nat} (h : s.getD i false = true) : s.set i true = s := by
 refine Vd false (by rw [Qb1]) fun j hj => ?_
 rw [Qb1] at hj
 by_cases hi : i < s.length
 ·rw [E4 hi]; split
  ·rename_i e; subst e; exact h.symm
  ·rfl
 ·rw [Qg1 (by omega)]
theorem G9 {s : List Bool} {i : Nat} : Pt s (s.set i true) := by
 refine ⟨by rw [Qb1], fun j hj => ?_⟩
 by_cases hi : i < s.length
 ·rw [E4 hi]; split
  ·rfl
  ·exact hj
 ·rw [Qg1 (by omega)]; exact hj
theorem Ga {s : List Bool} {p x : Int} (hp : p.toNat < s.length) (h0 : 0 ≤ p) (hx : 0 ≤ x) : inS (s.set p.toNat true) x ↔ x = p ∨ inS s x := by
 unfold inS; rw [E4 hp]; split
 ·rename_i e; exact ⟨fun _ => .inl (by omega), fun _ => rfl⟩
 ·rename_i e; exact ⟨.inr, fun h => h.elim (fun h => absurd (by rw [h]) e) id⟩
theorem XN {s : List Bool} {x : Int} (h : inS s x) : x.toNat < s.length := by
 unfold inS at h
 by_cases hl : x.toNat < s.length
 ·exact hl
 ·rw [Qa0, List.getElem?_eq_none (by omega)] at h; cases h
def Aa7 (g : List Ai) (s : List Bool) : Prop := ∀ c, inR g c → inS s c → ∀ p ∈ A8 g c, inS s p
theorem YK {g : List Ai} {s : List Bool} (hv : Sm g) (hc : Aa7 g s) {a b : Int} (h : Rch g a b) (ha : inR g a) (hs : inS s a) : inS s b := by
 induction h with
 | refl => exact hs
 | step h _ ih => exact ih (hv _ ha _ h) (hc _ ha hs _ h)
def L0 (g : List Ai) (fr : List Int) (s : List Bool) : Prop := s.length = g.length ∧ ∀ x, inR g x → (inS s x ↔ ∃ f ∈ fr, Rch g f x)
def AeN (g : List Ai) (fr : List Int) (s : List Bool) : Prop := ∀ x, 0 ≤ x → inS s x → ∃ f ∈ fr, Rch g f x
def bsG (fr : List Int) (s : List Bool) : Prop := ∀ f ∈ fr, inS s f
theorem bsG.mono {fr : List Int} {s t : List Bool} (h : bsG fr s) (k : Pt s t) : bsG fr t := fun f hf => k.2 _ (h f hf)
structure Zo (g : List Ai) (fr : List Int) (S : List Bool) (c : Int) (s : List Bool) : Prop where
 sub : Pt S s
 snd : AeN g fr s
 done : ∀ c', inR g c' → c' < c → inS S c' → ∀ p ∈ A8 g c', inS s p
 same : Aa7 g S → s = S
structure AfL (g : List Ai) (fr : List Int) (S : List Bool) (c p : Int) (s : List Bool) : Prop where
 rnd : Zo g fr S c s
 par : inS S c → ∀ q ∈ (A8 g c).take p.toNat, inS s q
def Fv (P : Pg) : Prop := ∀ x : List Ai × List Int, x.1.length ≤ 1000000 → x.2.length ≤ 1000000 → Sm x.1 → (∀ c, inR x.1 c → (A8 x.1 c).length ≤ 1000000) → (∀ f ∈ x.2, inR x.1 f) → Fn P zS2 AO x fun (d : List Bool) _ => L0 x.1 x.2 d
theorem Ab9 (h : Has P Gn) : Fv P := by
 rintro ⟨g, fr⟩ hn hm hv hpl hf; dsimp only at hn hm hv hpl hf; refine Qr h ?_; unfold LO; dsimp only; refine ⟨⟨Qa3 _, Qa1 _, by omega⟩, ?_⟩; refine Ad.mid (fun s => s.length = g.length ∧ bsG fr s ∧ AeN g fr s) ?_ ?_
 ·refine AF.of (fun q => (0 ≤ q.2 ∧ q.2 ≤ fr.length) ∧ q.1.length = g.length ∧ (∀ j, j < q.2.toNat → inS q.1 (fr.getD j 0)) ∧ ∀ x, 0 ≤ x → inS q.1 x → x ∈ fr) (fun q => (fr.length - q.2).toNat) ⟨⟨Qa1 _, Qa3 _⟩, by simp, fun j hj => absurd hj (by simp), fun x h0 hx => by
   have hl := XN hx; unfold inS at hx; rw [EC (by simpa using hl)] at hx
   cases hx⟩ ?_
  rintro ⟨s, i⟩ ⟨⟨i0, i1⟩, hsl, hb, hs⟩; dsimp only at i0 i1 hsl hb hs ⊢; refine ⟨fun hi => ?_, fun hi => ?_⟩
  ·have hi := of_decide_eq_true hi
   have hi2 : i.toNat < fr.length := by omega
   have hfi := hf _ (Br (d := 0) hi2)
   have hfl : (fr.getD i.toNat 0).toNat < s.length := by have := hfi.1; have := hfi.2; omega
   refine Ad.mid (fun t => t = s.set (fr.getD i.toNat 0).toNat true) ⟨⟨i0, hi⟩, hi2, ⟨hfi.1, by have := hfi.2; omega⟩, hfl, rfl⟩ ?_
   rintro t rfl; rw [w64 (by omega) (by omega)]; refine ⟨⟨⟨by omega, by omega⟩, by rw [Qb1]; exact hsl, fun j hj => ?_, fun x h0 hx => ?_⟩, by omega⟩
   ·by_cases e : j = i.toNat
    ·subst e; exact (Ga hfl hfi.1 hfi.1).2 (.inl rfl)
    ·exact G9.2 _ (hb j (by omega))
   ·rcases (Ga hfl hfi.1 h0).1 hx with rfl | hx
    ·exact Br hi2
    ·exact hs x h0 hx
  ·have hi := of_decide_eq_false hi; refine ⟨hsl, fun f hf => ?_, fun x h0 hx => ⟨x, hs x h0 hx, .refl x⟩⟩; obtain ⟨j, hj⟩ := Qb7 hf; obtain ⟨hl, he⟩ := List.getElem?_eq_some_iff.1 hj; have := hb j (by omega)
   rwa [getD_eq hl, he] at this
 rintro s0 ⟨hl0, hb0, hs0⟩
 refine Ad.mid (fun s => L0 g fr s) ?_ fun _ h => h
 refine AF.of (fun q => (0 ≤ q.2 ∧ q.2 ≤ g.length) ∧ q.1.length = g.length ∧ bsG fr q.1 ∧ AeN g fr q.1 ∧ (Aa7 g q.1 ∨ q.2.toNat ≤ q.1.count true)) (fun q => (g.length - q.2).toNat) ⟨⟨Qa1 _, Qa3 _⟩, hl0, hb0, hs0, .inr (Qd7 _)⟩ ?_; rintro ⟨S, r⟩ ⟨⟨r0, r1⟩, hSl, hSb, hSs, hSc⟩; dsimp only at r0 r1 hSl hSb hSs hSc ⊢; refine ⟨fun hr => ?_, fun hr => ?_⟩
 ·have hr := of_decide_eq_true hr
  refine Ad.mid (fun s => Zo g fr S g.length s) ?_ fun s hs => ?_
  ·refine Ad.mid (fun s => Zo g fr S g.length s) ?_ fun _ h => h
   refine AF.of (fun q => (0 ≤ q.2 ∧ q.2 ≤ g.length) ∧ Zo g fr S q.2 q.1) (fun q => (g.length - q.2).toNat) ⟨⟨Qa1 _, Qa3 _⟩, ⟨Pt.refl S, hSs, fun c' h1 h2 => absurd h2 (by have := h1.1; omega), fun _ => rfl⟩⟩ ?_
   rintro ⟨s, c⟩ ⟨⟨c0, c1⟩, hs⟩; dsimp only at c0 c1 hs ⊢; refine ⟨fun hc => ?_, fun hc => ?_⟩
   ·have hc := of_decide_eq_true hc
    have hc2 : c.toNat < g.length := by omega
    have hcr : inR g c := ⟨c0, hc⟩
    have hpc := hpl c hcr
    refine Ad.mid (fun s => Zo g fr S (c + 1) s) ?_ fun s hs => ?_
    ·refine Ad.mid (fun s => Zo g fr S (c + 1) s) ?_ fun _ h => h
     show AF _ _; have hpe : (g.getD c.toNat ([], (0, []))).1 = A8 g c := rfl; refine AF.of (fun q => (0 ≤ q.2 ∧ q.2 ≤ (A8 g c).length) ∧ AfL g fr S c q.2 q.1) (fun q => ((A8 g c).length - q.2).toNat) ⟨⟨Qa1 _, Qa3 _⟩, hs, fun _ q hq => by simp at hq⟩ ?_; rintro ⟨s, p⟩ ⟨⟨p0, p1⟩, hs⟩; dsimp only at p0 p1 hs ⊢; have hsl : s.length = g.length := hs.rnd.sub.1.symm.trans hSl
     refine ⟨⟨c0, hc⟩, hc2, fun _ => ⟨c0, by omega⟩, fun _ => by omega, fun hb => ?_, fun hb => ?_⟩
     ·rw [Qb5] at hb; split at hb
      ·rename_i h1; have h1 := of_decide_eq_true h1; have h1 : p < (A8 g c).length := h1; have h2 : inS s c := hb
       have hp2 : p.toNat < (A8 g c).length := by omega
       have hpm : (A8 g c).getD p.toNat 0 ∈ A8 g c := Br hp2; have hpr := hv c hcr _ hpm
       have hpl2 : ((A8 g c).getD p.toNat 0).toNat < s.length := by have := hpr.1; have := hpr.2; omega
       have hlt : (A8 g c).getD p.toNat 0 < ((s.length : Nat) : Int) := by have := hpr.2; omega
       refine Ad.mid (fun t => t = s.set ((A8 g c).getD p.toNat 0).toNat true) ⟨⟨c0, hc⟩, hc2, ⟨p0, h1⟩, hp2, ⟨hpr.1, hlt⟩, hpl2, rfl⟩ ?_; rintro t rfl; rw [w64 (by omega) (by omega)]; refine ⟨⟨⟨by omega, by omega⟩, ⟨hs.rnd.sub.trans G9, fun x h0 hx => ?_, fun c' h3 h4 h5 q hq => G9.2 _ (hs.rnd.done c' h3 h4 h5 q hq), fun hcl => ?_⟩, fun hSc q hq => ?_⟩, by omega⟩
       ·rcases (Ga hpl2 hpr.1 h0).1 hx with rfl | hx
        ·obtain ⟨f, hf, hfc⟩ := hs.rnd.snd c c0 h2; exact ⟨f, hf, hfc.snoc hpm⟩
        ·exact hs.rnd.snd x h0 hx
       ·have he := hs.rnd.same hcl; subst he; exact AbY (hcl c hcr h2 _ hpm)
       ·rw [show (p + 1).toNat = p.toNat + 1 by omega, Qd4, Qa4 hp2] at hq
        rcases List.mem_append.1 hq with hq | hq
        ·exact G9.2 _ (hs.par hSc q hq)
        ·have : q = (A8 g c).getD p.toNat 0 := by rw [getD_eq hp2]; simpa using hq
         rw [this]; exact (Ga hpl2 hpr.1 hpr.1).2 (.inl rfl)
      ·cases hb
     ·refine ⟨hs.rnd.sub, hs.rnd.snd, fun c' h1 h2 h3 q hq => ?_, hs.rnd.same⟩
      by_cases e : c' = c
      ·subst e; have hin : inS s c' := hs.rnd.sub.2 _ h3
       have hpe : ¬ p < (A8 g c').length := fun h4 => by
        have h5 : (decide (p < (((A8 g c').length : Nat) : Int))) = true := decide_eq_true h4; have hb : (cond (decide (p < (((A8 g c').length : Nat) : Int))) (s.getD c'.toNat false) false) = false := hb; rw [h5, cond_true] at hb; unfold inS at hin; rw [hin] at hb; cases hb
       have := hs.par h3; rw [Qa8 (by omega)] at this; exact this q hq
      ·exact hs.rnd.done c' h1 (by omega) h3 q hq
    ·rw [w64 (by omega) (by omega)]; exact ⟨⟨⟨by omega, by omega⟩, hs⟩, by omega⟩
   ·have hc := of_decide_eq_false hc; rw [show ((g.length : Nat) : Int) = c by omega]; exact hs
  ·rw [w64 (by omega) (by omega)]; refine ⟨⟨⟨by omega, by omega⟩, hs.sub.1.symm.trans hSl, hSb.mono hs.sub, hs.snd, ?_⟩, by omega⟩
   have hclo : s = S → Aa7 g s := fun e c hc hin p hp => hs.done c hc hc.2 (by rw [← e]; exact hin) p hp
   obtain ⟨h1, h2⟩ := WN hs.sub
   rcases hSc with h | h
   ·exact .inl (hclo (hs.same h))
   ·by_cases e : S.count true = s.count true
    ·exact .inl (hclo (h2 e).symm)
    ·exact .inr (by omega)
 ·have hr := of_decide_eq_false hr
  have hcl : Aa7 g S := by
   rcases hSc with h | h
   ·exact h
   ·intro c hc hin p hp; have hpr := hv c hc p hp; exact Va (by omega) _ (by have := hpr.1; have := hpr.2; omega)
  refine ⟨hSl, fun x hx => ⟨fun h => hSs x hx.1 h, ?_⟩⟩; rintro ⟨f, hfm, hr⟩; exact YK hv hcl hr (hf f hfm) (hSb f hfm)
def NX (P : Pg) : Prop := ∀ x : Bs × Bs, x.1.length ≤ 140737488351232 → x.2.length ≤ 140737488351232 → Fn P Acx Dd x fun (d : Bool) _ => d = FZ x.1 x.2
theorem Aai (h : Has P Gl) : NX P := by
 rintro ⟨a, b⟩ ha hb; dsimp only at ha hb; refine Qp h ?_; unfold LM; dsimp only; refine ⟨fun hc => ?_, fun hc => ?_, rfl⟩
 ·have hc := of_decide_eq_true hc; exact ⟨by omega, by omega⟩
 ·rw [Qb5] at hc; split at hc
  ·rename_i h1; have h1 := of_decide_eq_true h1; exact ⟨by omega, by omega⟩
  ·cases hc
def Ic (P : Pg) : Prop := ∀ s : Bs, s.length ≤ 140737488351232 → Fn P Acw Dc s fun (d : Int) _ => d = GK s
theorem Si (h : Has P Gj) (hL : Ji P) : Ic P := by
 intro s hs; refine Qn h ?_; unfold LK; refine ⟨fun hc => ?_, fun hc => ?_⟩
 ·have hc := of_decide_eq_true hc; refine ⟨fun _ => ?_, fun h => (nomatch h)⟩; unfold GK; rw [if_pos (.inl (by omega))]
 ·have hc := of_decide_eq_false hc; refine (hL s (by omega)).to ?_; rintro (d : List Bs) _ hd; have hd : d = lnF s := hd; subst hd; simp only [cond_false]; unfold GK; refine ⟨fun h1 => ?_, fun h1 => ?_⟩
  ·have h1 := of_decide_eq_true h1; rw [if_pos (.inr (by omega))]
  ·have h1 := of_decide_eq_false h1; rw [if_neg (by omega)]
theorem U8 {l : List Bh} {i : Nat} (hi : i < l.length) (hl : ¬ l.length > 200) (h : CD (l.getD i ([], [])).1 ≠ 0) : Fm l = 210 := by
 unfold Fm; rw [if_neg hl, if_pos]; rw [List.all_eq_false]; exact ⟨_, Br hi, by simpa using h⟩
theorem AaG {α : Type} {l : List α} {p : α → Bool} {d : α} (h : ∀ j, j < l.length → p (l.getD j d) = true) : l.all p = true := by
 rw [Qe8]; intro x hx; obtain ⟨j, hj⟩ := Qb7 hx; have hl : j < l.length := (List.getElem?_eq_some_iff.1 hj).1; have := h j hl
 rwa [Qa0, hj, Qb6] at this
def EZ (P : Pg) : Prop := ∀ l : List Bh, Kw l → Fn P YB Cn l fun (d : Int) _ => d = Fm l
theorem Sj (h : Has P EX) (hP : EY P) (hA : NX P) (hT : Ic P) : EZ P := by
 intro l hl; have hln := hl.1; refine Km h ?_; unfold Ig; refine ⟨fun hc => ?_, fun hc => ?_⟩
 ·have hc := of_decide_eq_true hc; unfold Fm; rw [if_pos (by omega)]
 have hc := of_decide_eq_false hc
 have hc2 : ¬ l.length > 200 := by omega
 refine Ad.mid (fun _ => ∀ j, j < l.length → CD (l.getD j ([], [])).1 = 0) ?_ ?_
 ·refine AF.of (fun q => (0 ≤ q.2 ∧ q.2 ≤ l.length) ∧ ∀ j, j < q.2.toNat → CD (l.getD j ([], [])).1 = 0) (fun q => (l.length - q.2).toNat) ⟨⟨Qa1 _, by dsimp only; omega⟩, fun j hj => absurd hj (by simp)⟩ ?_
  rintro ⟨q, i⟩ ⟨⟨i0, i1⟩, hq⟩; dsimp only at i0 i1 hq ⊢; refine ⟨fun hi => ?_, fun hi => ?_⟩
  ·have hi := of_decide_eq_true hi
   have hi2 : i.toNat < l.length := by omega
   refine Ad.mid (fun _ => CD (l.getD i.toNat ([], [])).1 = 0) ⟨⟨i0, hi⟩, hi2, hP.at (hl.at hi2).1 ⟨fun hb => ?_, fun hb => ?_⟩⟩ fun _ hn => ?_
   ·exact (U8 hi2 hc2 (by simpa using hb)).symm
   ·simpa using hb
   ·rw [w64 (by omega) (by omega)]; refine ⟨⟨⟨by omega, by omega⟩, fun j hj => ?_⟩, by omega⟩
    by_cases hji : j = i.toNat
    ·subst hji; exact hn
    ·exact hq j (by omega)
  ·have hi := of_decide_eq_false hi
   exact fun j hj => hq j (by omega)
 intro q hp
 have hpa : l.all (fun f => CD f.1 == 0) = true := AaG (d := ([], [])) fun j hj => by rw [hp j hj]; rfl
 have hbad : ∀ i k, i < l.length → k < i → (Op.bytesLess (pth l k) (pth l i) = false ∨ FZ (pth l k) (pth l i) = true) → (211 : Int) = Fm l := by
  intro i k hi hk hv; unfold Fm; rw [if_neg hc2, if_neg (by rw [hpa]; simp), if_pos]
  rw [Qe2]; intro ho; have := (QU l).1 ho i hi k hk
  rcases hv with hv | hv
  ·rw [this.1] at hv; cases hv
  ·rw [this.2] at hv; cases hv
 clear hp; refine Ad.mid (fun _ => V5 l) ?_ ?_
 ·refine AF.of (fun q => (0 ≤ q.2 ∧ q.2 ≤ l.length) ∧ ∀ i, i < q.2.toNat → ∀ k, k < i → Op.bytesLess (pth l k) (pth l i) = true ∧ FZ (pth l k) (pth l i) = false) (fun q => (l.length - q.2).toNat) ⟨⟨Qa1 _, by dsimp only; omega⟩, fun j hj => absurd hj (by simp)⟩ ?_
  rintro ⟨q', i⟩ ⟨⟨i0, i1⟩, hq⟩; dsimp only at i0 i1 hq ⊢; refine ⟨fun hi => ?_, fun hi => ?_⟩
  ·have hi := of_decide_eq_true hi
   have hi2 : i.toNat < l.length := by omega
   refine Ad.mid (fun _ => ∀ k, k < i.toNat → Op.bytesLess (pth l k) (pth l i.toNat) = true ∧ FZ (pth l k) (pth l i.toNat) = false) ?_ fun _ hn => ?_
   ·refine Ad.mid (fun _ => ∀ k, k < i.toNat → Op.bytesLess (pth l k) (pth l i.toNat) = true ∧ FZ (pth l k) (pth l i.toNat) = false) ?_ fun _ h => h
    refine AF.of (fun q => (0 ≤ q.2 ∧ q.2 ≤ i) ∧ ∀ k, k < q.2.toNat → Op.bytesLess (pth l k) (pth l i.toNat) = true ∧ FZ (pth l k) (pth l i.toNat) = false) (fun q => (i - q.2).toNat) ⟨⟨Qa1 _, i0⟩, fun j hj => absurd hj (by simp)⟩ ?_; rintro ⟨q2, k⟩ ⟨⟨k0, k1⟩, hk⟩; dsimp only at k0 k1 hk ⊢; refine ⟨fun hki => ?_, fun hki => ?_⟩
    ·have hki := of_decide_eq_true hki
     have hk2 : k.toNat < l.length := by omega
     refine Ad.mid (fun _ => Op.bytesLess (pth l k.toNat) (pth l i.toNat) = true ∧ FZ (pth l k.toNat) (pth l i.toNat) = false) ?_ fun _ hn => ?_
     ·refine Ad.mid (fun d => d = (!(Op.bytesLess (pth l k.toNat) (pth l i.toNat)) || FZ (pth l k.toNat) (pth l i.toNat))) ?_ ?_
      ·refine ⟨⟨k0, by omega⟩, hk2, ⟨i0, by omega⟩, hi2, fun _ => ⟨k0, by omega⟩, fun _ => hk2, fun _ => ⟨i0, by omega⟩, fun _ => hi2, ?_, trivial⟩
       refine Ad.mid (fun d => (!(Op.bytesLess (pth l k.toNat) (pth l i.toNat))) = false → d = FZ (pth l k.toNat) (pth l i.toNat)) ⟨fun _ => (hA (pth l k.toNat, pth l i.toNat) (hl.at hk2).1 (hl.at hi2).1).to fun (d : Bool) _ hd _ => hd, (by intro hb hb2; rw [hb] at hb2; cases hb2), trivial⟩ ?_
       intro d hd
       cases hb : (!(Op.bytesLess (pth l k.toNat) (pth l i.toNat))) with
       | true => rfl
       | false => exact hd hb
      ·rintro d rfl; refine ⟨fun hb => ?_, fun hb => ?_⟩
       ·refine hbad i.toNat k.toNat hi2 (by omega) ?_; simpa using hb
       ·simpa using hb
     ·rw [w64 (by omega) (by omega)]; refine ⟨⟨⟨by omega, by omega⟩, fun j hj => ?_⟩, by omega⟩
      by_cases hji : j = k.toNat
      ·subst hji; exact hn
      ·exact hk j (by omega)
    ·have hki := of_decide_eq_false hki
     exact fun j hj => hk j (by omega)
   ·rw [w64 (by omega) (by omega)]; refine ⟨⟨⟨by omega, by omega⟩, fun j hj => ?_⟩, by omega⟩
    by_cases hji : j = i.toNat
    ·subst hji; exact hn
    ·exact hq j (by omega)
  ·have hi := of_decide_eq_false hi
   exact fun j hj => hq j (by omega)
 intro q ho; have hob := (QU l).2 ho; clear ho hbad
 refine Ad.mid (fun _ => Fm l = 0) ?_ fun _ h => h.symm
 refine AF.of (fun q => (0 ≤ q.2 ∧ q.2 ≤ l.length) ∧ ∀ j, j < q.2.toNat → GK (l.getD j ([], [])).2 = 0) (fun q => (l.length - q.2).toNat) ⟨⟨Qa1 _, by dsimp only; omega⟩, fun j hj => absurd hj (by simp)⟩ ?_
 rintro ⟨q', i⟩ ⟨⟨i0, i1⟩, hq⟩; dsimp only at i0 i1 hq ⊢; refine ⟨fun hi => ?_, fun hi => ?_⟩
 ·have hi := of_decide_eq_true hi
  have hi2 : i.toNat < l.length := by omega
  refine Ad.mid (fun _ => GK (l.getD i.toNat ([], [])).2 = 0) ⟨⟨i0, hi⟩, hi2, (hT _ (hl.at hi2).2).to ?_⟩ fun _ hn => ?_
  ·rintro (d : Int) _ hd; have hd : d = GK (l.getD i.toNat ([], [])).2 := hd; subst hd; refine ⟨fun hb => ?_, fun hb => ?_⟩
   ·unfold Fm; rw [if_neg hc2, if_neg (by rw [hpa]; simp), if_neg (by rw [hob]; simp), if_pos]
    rw [List.all_eq_false]; exact ⟨_, Br (d := ([], [])) hi2, by simpa using hb⟩
   ·simpa using hb
  ·rw [w64 (by omega) (by omega)]; refine ⟨⟨⟨by omega, by omega⟩, fun j hj => ?_⟩, by omega⟩
   by_cases hji : j = i.toNat
   ·subst hji; exact hn
   ·exact hq j (by omega)
 ·have hi := of_decide_eq_false hi; unfold Fm; rw [if_neg hc2, if_neg (by rw [hpa]; simp), if_neg (by rw [hob]; simp), if_neg]
  rw [AaG (d := ([], [])) (p := fun f : Bh => GK f.2 == 0) fun j hj => by rw [hq j (by omega)]; rfl]
  simp
theorem EZ.at (h : EZ P) {l : List Bh} (hl : Kw l) {K : Int → Unit → Prop} (hk : K (Fm l) ()) : Fn P YB Cn l K :=
 (h l hl).to fun (d : Int) _ hd => by
  have hd : d = Fm l := hd; subst hd; exact hk
theorem V5.mono {l : List Bh} (h : V5 l) {i k : Nat} (hk : k < l.length) (hi : i < k) : Op.bytesLess (pth l i) (pth l k) = true := (h k hk i hi).1
theorem V5.ne {l : List Bh} (h : V5 l) : l.Pairwise (fun x y => x.1 ≠ y.1) := by
 rw [Qc7]; intro i j hi hj hij e; have h1 := (h j hj i hij).1
 have h2 : pth l i = pth l j := by
  unfold pth; rw [getD_eq hi, getD_eq hj]; exact e
 rw [h2, N9] at h1; cases h1
theorem V5.blob {l : List Bh} (h : V5 l) {f : Bh} (hf : f ∈ l) : D0 l f.1 = some f.2 := by
 have h1 := h.ne; clear h
 induction l with
 | nil => cases hf
 | cons g r ih =>
  have h2 := List.pairwise_cons.1 h1; rw [D0]
  rcases List.mem_cons.1 hf with rfl | hf
  ·cases hb : D0 r f.1 with
   | none => dsimp only; rw [if_pos rfl]
   | some v =>
    obtain ⟨g, hg, he⟩ := (Li r f.1).1 (by rw [hb]; rfl)
    exact absurd he.symm (h2.1 g hg)
  ·rw [ih hf h2.2]
theorem He {α : Type} [DecidableEq α] : ∀ {l m : List α}, l.Nodup → (∀ x ∈ l, x ∈ m) → l.length ≤ m.length
 | [], _, _, _ => Qd7 _
 | a :: l, m, hn, hs => by
  have h2 := List.nodup_cons.1 hn; have ha := hs a (Qb0 ..)
  have ih := He (m := m.erase a) h2.2 fun x hx => (Qh7 (show x ≠ a from fun e => h2.1 (by rw [← e]; exact hx))).2 (hs x (Qb3 _ hx))
  rw [Qg2 ha] at ih; have := Qh0 ha; rw [Qa2]; omega
def rng (n : Nat) : List Int := (Qe1 n).map fun (i : Nat) => (i : Int)
theorem D4 {n : Nat} {x : Int} : x ∈ rng n ↔ 0 ≤ x ∧ x < n := by
 unfold rng; rw [List.mem_map]; constructor
 ·rintro ⟨i, hi, rfl⟩; have := List.mem_range.1 hi; omega
 ·intro h; exact ⟨x.toNat, List.mem_range.2 (by omega), by omega⟩
theorem SY (n : Nat) : (rng n).Nodup := by
 unfold rng; rw [Qc5, Qe3]
 exact (List.nodup_iff_pairwise_ne.1 List.nodup_range).imp fun h e => h (by omega)
theorem FM (n : Nat) : (rng n).length = n := by simp [rng]
theorem NJ (n : Nat) : rng (n + 1) = rng n ++ [(n : Int)] := by
 unfold rng; rw [List.range_succ, Qc3]; rfl
def DE (g : List Ai) (L : List Int) (p : Int) : Nat := (L.map fun c => (A8 g c).count p).sum
def ndG (g : List Ai) : Prop := ∀ c, inR g c → (A8 g c).Nodup
theorem Abb (g : List Ai) (L M : List Int) (p : Int) : DE g (L ++ M) p = DE g L p + DE g M p := by
 unfold DE; rw [Qc3, List.sum_append]
theorem YO {g : List Ai} {p : Int} : ∀ {L : List Int}, (∀ c ∈ L, (A8 g c).count p ≤ 1) → DE g L p ≤ L.length
 | [], _ => Qc8 _
 | c :: L, h => by
  have h1 := h c (Qb0 ..)
  have h2 := YO (g := g) (p := p) (L := L) fun x hx => h x (Qb3 _ hx)
  unfold DE at h2 ⊢; rw [Qe6, Qe7, Qa2]; omega
theorem Lk {g : List Ai} {p : Int} : ∀ {L : List Int}, DE g L p = 0 ↔ ∀ c ∈ L, p ∉ A8 g c
 | [] => by simp [DE]
 | c :: L => by
  have ih := Lk (g := g) (p := p) (L := L)
  have hs : DE g (c :: L) p = (A8 g c).count p + DE g L p := by unfold DE; rw [Qe6, Qe7]
  rw [hs]; constructor
  ·intro h x hx
   rcases List.mem_cons.1 hx with rfl | hx
   ·intro hm; have := List.count_pos_iff.2 hm; omega
   ·exact ih.1 (by omega) x hx
  ·intro h; have h1 : (A8 g c).count p = 0 := List.count_eq_zero.2 (h c (Qb0 ..))
   have h2 := ih.2 fun x hx => h x (Qb3 _ hx)
   omega
def HG (g : List Ai) (Q : List Int) : List Int := (rng g.length).filter fun c => !decide (c ∈ Q)
theorem PH {g : List Ai} {Q : List Int} {c : Int} : c ∈ HG g Q ↔ inR g c ∧ c ∉ Q := by
 unfold HG; rw [Qf1, D4]; simp [inR]
theorem Qd (g : List Ai) (Q : List Int) (c p : Int) (hq : c ∉ Q) : ∀ {R : List Int}, R.Nodup → c ∈ R → DE g (R.filter fun x => !decide (x ∈ Q)) p = DE g (R.filter fun x => !decide (x ∈ Q ++ [c])) p + (A8 g c).count p
 | [], _, h => nomatch h
 | a :: R, hn, h => by
  have hn2 := List.nodup_cons.1 hn
  by_cases e : a = c
  ·subst e
   have hsame : (R.filter fun x => !decide (x ∈ Q ++ [a])) = R.filter fun x => !decide (x ∈ Q) := by
    refine Qf8 fun x hx => ?_
    have hxa : x ≠ a := fun e => hn2.1 (by rw [← e]; exact hx)
    simp [hxa]
   rw [Qd0 (by simpa using hq), Qd1 (by simp), hsame]; unfold DE; rw [Qe6, Qe7]; omega
  ·have hc : c ∈ R := (List.mem_cons.1 h).resolve_left fun h => e h.symm
   have ih := Qd g Q c p hq hn2.2 hc
   by_cases ha : a ∈ Q
   ·rw [Qd1 (by simpa using ha), Qd1 (by simp [ha])]; exact ih
   ·rw [Qd0 (by simpa using ha), Qd0 (by simp [ha, e])]; unfold DE at ih ⊢; rw [Qe6, Qe7, Qe6, Qe7]; omega
theorem ZD {g : List Ai} {Q : List Int} {c : Int} (p : Int) (hq : c ∉ Q) (hc : inR g c) : DE g (HG g Q) p = DE g (HG g (Q ++ [c])) p + (A8 g c).count p :=
 Qd g Q c p hq (SY _) (D4.2 hc)
theorem AdA (g : List Ai) : HG g [] = rng g.length := by
 unfold HG; rw [List.filter_eq_self]; intro a _; simp
structure UpG (g : List Ai) (d : List Int) : Prop where
 nd : d.Nodup
 rn : ∀ p ∈ d, inR g p
 ord : ∀ i, i < d.length → ∀ c, inR g c → d.getD i 0 ∈ A8 g c → c ∈ d.take i
 rem : ∀ p, inR g p → p ∉ d → ∃ c, inR g c ∧ c ∉ d ∧ p ∈ A8 g c
def Lz (g : List Ai) : Prop := ∃ c, inR g c ∧ ∃ p ∈ A8 g c, Rch g p c
theorem UpG.len {g : List Ai} {d : List Int} (h : UpG g d) : d.length ≤ g.length := by
 have := He h.nd (m := rng g.length) fun x hx => D4.2 (h.rn x hx)
 rwa [FM] at this
theorem UpG.all {g : List Ai} {d : List Int} (h : UpG g d) (hl : g.length ≤ d.length) {p : Int} (hp : inR g p) : p ∈ d := by
 by_cases e : p ∈ d
 ·exact e
 ·have := He h.nd (m := (rng g.length).erase p) fun x hx => (Qh7 (show x ≠ p from fun e2 => e (by rw [← e2]; exact hx))).2 (D4.2 (h.rn x hx))
  have hm := D4.2 hp; rw [Qg2 hm, FM] at this; have := hp.1; have := hp.2; omega
theorem Vg {g : List Ai} {d : List Int} (h : UpG g d) : ∀ (m : Nat) (x : Int) (L : List Int), g.length - (x :: L).length < m → (x :: L).Nodup → (∀ y ∈ x :: L, inR g y ∧ Rch g x y) → x ∉ d → Lz g
 | 0, _, _, h0, _, _, _ => absurd h0 (Nat.not_lt_zero _)
 | m + 1, x, L, hm, hn, hr, hx => by
  obtain ⟨c, hc, hcd, hp⟩ := h.rem x (hr x (Qb0 ..)).1 hx
  by_cases e : c ∈ x :: L
  ·exact ⟨c, hc, x, hp, (hr c e).2⟩
  ·have hl := He (List.nodup_cons.2 ⟨e, hn⟩) (m := rng g.length) fun y hy => by
    rcases List.mem_cons.1 hy with rfl | hy
    ·exact D4.2 hc
    ·exact D4.2 (hr y hy).1
   rw [FM] at hl; simp only [Qa2] at hl hm; refine Vg h m c (x :: L) (by simp only [Qa2]; omega) (List.nodup_cons.2 ⟨e, hn⟩) (fun y hy => ?_) hcd
   rcases List.mem_cons.1 hy with rfl | hy
   ·exact ⟨hc, .refl _⟩
   ·exact ⟨(hr y hy).1, .step hp (hr y hy).2⟩
theorem Ae2 {g : List Ai} {d : List Int} (hv : Sm g) (h : UpG g d) : d.length < g.length ↔ Lz g := by
 constructor
 ·intro hl
  have : ∃ p, inR g p ∧ p ∉ d := by
   by_cases e : ∃ p, inR g p ∧ p ∉ d
   ·exact e
   ·have := He (SY g.length) (m := d) fun x hx => by
     by_cases e2 : x ∈ d
     ·exact e2
     ·exact absurd ⟨x, D4.1 hx, e2⟩ e
    rw [FM] at this; omega
  obtain ⟨p, hp, hpd⟩ := this; refine Vg h (g.length + 1) p [] (by simp only [Qa2, Qa5]; omega) (by simp) (fun y hy => ?_) hpd
  rw [List.mem_singleton.1 hy]; exact ⟨hp, .refl _⟩
 ·rintro ⟨c, hc, p, hp, hr⟩
  by_cases hl : d.length < g.length
  ·exact hl
  exfalso
  have hall := fun {x : Int} (hx : inR g x) => h.all (by omega) hx
  have hidx : ∀ {x : Int}, inR g x → ∃ i, ∃ hi : i < d.length, d[i] = x := fun hx => List.getElem_of_mem (hall hx)
  have hinj : ∀ {i j : Nat} (hi : i < d.length) (hj : j < d.length), d[i] = d[j] → i = j := fun {i j} hi hj e => by
   have hpw := List.pairwise_iff_getElem.1 (List.nodup_iff_pairwise_ne.1 h.nd)
   rcases Nat.lt_trichotomy i j with h1 | h1 | h1
   ·exact absurd e (hpw i j hi hj h1)
   ·exact h1
   ·exact absurd e.symm (hpw j i hj hi h1)
  have hstep : ∀ {a b : Int} {i j : Nat} (hi : i < d.length) (hj : j < d.length), inR g a → d[i] = a → d[j] = b → b ∈ A8 g a → i < j := fun {a b i j} hi hj ha e1 e2 hb => by
   have h1 := h.ord j hj a ha (by rw [getD_eq hj, e2]; exact hb)
   obtain ⟨k, hk, hke⟩ := List.getElem_of_mem h1; rw [List.getElem_take] at hke
   have hk2 : k < j ∧ k < d.length := by rw [Qa9] at hk; omega
   have := hinj hk2.2 hi (by rw [hke, e1]); omega
  have hmono : ∀ {a b : Int}, Rch g a b → inR g a → ∀ {i j : Nat} (hi : i < d.length) (hj : j < d.length), d[i] = a → d[j] = b → i ≤ j := by
   intro a b hab
   induction hab with
   | refl c => intro _ i j hi hj e1 e2; exact Nat.le_of_eq (hinj hi hj (by rw [e1, e2]))
   | step hq _ ih =>
    intro ha i j hi hj e1 e2; have hqr := hv _ ha _ hq; obtain ⟨k, hk, hke⟩ := hidx hqr; have h1 := hstep hi hk ha e1 hke hq; have h2 := ih hqr hk hj hke e2; omega
  have hpr := hv c hc p hp; obtain ⟨i, hi, hie⟩ := hidx hc; obtain ⟨j, hj, hje⟩ := hidx hpr; have h1 := hstep hi hj hc hie hje hp; have h2 := hmono hr hpr hj hi hje hie; omega
structure Up3 (g : List Ai) (ch out : List Int) (k : Nat) : Prop where
 len : ch.length = g.length
 cnt : ∀ p, inR g p → ch.getD p.toNat 0 = ((DE g (HG g (out.take k)) p : Nat) : Int)
 mem : ∀ p, inR g p → (p ∈ out ↔ ch.getD p.toNat 0 = 0)
 rn : ∀ p ∈ out, inR g p
 nd : out.Nodup
 ord : ∀ i, i < out.length → ∀ c, inR g c → out.getD i 0 ∈ A8 g c → c ∈ out.take i
 kl : k ≤ out.length
structure Up4 (g : List Ai) (c : Int) (Q ch out : List Int) (k j : Nat) : Prop where
 len : ch.length = g.length
 cnt : ∀ p, inR g p → ch.getD p.toNat 0 = ((DE g (HG g Q) p + ((A8 g c).drop j).count p : Nat) : Int)
 mem : ∀ p, inR g p → (p ∈ out ↔ ch.getD p.toNat 0 = 0)
 rn : ∀ p ∈ out, inR g p
 nd : out.Nodup
 ord : ∀ i, i < out.length → ∀ c, inR g c → out.getD i 0 ∈ A8 g c → c ∈ out.take i
 pre : out.take (k + 1) = Q
 kl : k < out.length
theorem Uk {g : List Ai} {out : List Int} (nd : out.Nodup) (rn : ∀ p ∈ out, inR g p) : out.length ≤ g.length := by
 have := He nd (m := rng g.length) fun x hx => D4.2 (rn x hx)
 rwa [FM] at this
theorem AcU {l : List Int} (hn : l.Nodup) {j : Nat} (hj : j < l.length) : l.drop j = l.getD j 0 :: l.drop (j + 1) ∧ (l.drop (j + 1)).count (l.getD j 0) = 0 := by
 have h1 : l.drop j = l.getD j 0 :: l.drop (j + 1) := by rw [Qc6 hj, getD_eq hj]
 refine ⟨h1, List.count_eq_zero.2 ?_⟩; have h2 : (l.drop j).Nodup := List.Nodup.sublist (List.drop_sublist j l) hn; rw [h1] at h2; exact (List.nodup_cons.1 h2).1
def N3 (P : Pg) : Prop := ∀ g : List Ai, g.length ≤ 1000000 → Sm g → ndG g → (∀ c, inR g c → (A8 g c).length ≤ 1000000) → Fn P Acs Dy g fun (d : List Int) _ => UpG g d
theorem Aao (h : Has P GQ) : N3 P := by
 intro g hn hv hnd hpl; refine RC h ?_; unfold MO; dsimp only; refine ⟨⟨Qa3 _, Qa1 _, by omega⟩, ?_⟩
 have hc1 : ∀ (L : List Int) (p : Int), (∀ c ∈ L, inR g c) → DE g L p ≤ L.length := fun L p hL => YO fun c hc => List.nodup_iff_count.1 (hnd c (hL c hc)) p
 have hrl : ∀ (i : Nat) (p : Int), i ≤ g.length → DE g (rng i) p ≤ i := fun i p hi => by
  have := hc1 (rng i) p fun c hc => ⟨(D4.1 hc).1, by have := (D4.1 hc).2; omega⟩
  rwa [FM] at this
 refine Ad.mid (fun ch => ch.length = g.length ∧ ∀ p, inR g p → ch.getD p.toNat 0 = ((DE g (rng g.length) p : Nat) : Int)) ?_ ?_
 ·refine AF.of (fun q => (0 ≤ q.2 ∧ q.2 ≤ g.length) ∧ q.1.length = g.length ∧ ∀ p, inR g p → q.1.getD p.toNat 0 = ((DE g (rng q.2.toNat) p : Nat) : Int)) (fun q => (g.length - q.2).toNat) ⟨⟨Qa1 _, Qa3 _⟩, by simp, fun p hp => by
   rw [EC (by have := hp.1; have := hp.2; omega)]; rfl⟩ ?_
  rintro ⟨ch, i⟩ ⟨⟨i0, i1⟩, hl, hcn⟩; dsimp only at i0 i1 hl hcn ⊢; refine ⟨fun hi => ?_, fun hi => ?_⟩
  ·have hi := of_decide_eq_true hi
   have hi2 : i.toNat < g.length := by omega
   have hir : inR g i := ⟨i0, hi⟩
   have hpc := hpl i hir
   have hit : ((i.toNat : Nat) : Int) = i := by omega
   refine Ad.mid (fun ch => ch.length = g.length ∧ ∀ p, inR g p → ch.getD p.toNat 0 = ((DE g (rng (i.toNat + 1)) p : Nat) : Int)) ⟨⟨i0, hi⟩, hi2, ?_⟩ ?_
   ·refine Ad.mid (fun ch => ch.length = g.length ∧ ∀ p, inR g p → ch.getD p.toNat 0 = ((DE g (rng (i.toNat + 1)) p : Nat) : Int)) ?_ fun _ h => h
    have hnx : ∀ p, DE g (rng (i.toNat + 1)) p = DE g (rng i.toNat) p + (A8 g i).count p := fun p => by
     rw [NJ, Abb, hit]; unfold DE; simp
    show AF _ _
    refine AF.of (fun q => (0 ≤ q.2 ∧ q.2 ≤ (A8 g i).length) ∧ q.1.length = g.length ∧ ∀ p, inR g p → q.1.getD p.toNat 0 = ((DE g (rng i.toNat) p + ((A8 g i).take q.2.toNat).count p : Nat) : Int)) (fun q => ((A8 g i).length - q.2).toNat) ⟨⟨Qa1 _, Qa3 _⟩, hl, fun p hp => by
     rw [hcn p hp]; rfl⟩ ?_
    rintro ⟨ch, j⟩ ⟨⟨j0, j1⟩, hl, hcn⟩; dsimp only at j0 j1 hl hcn ⊢; refine ⟨fun hj => ?_, fun hj => ?_⟩
    ·have hj : j < (A8 g i).length := of_decide_eq_true hj
     have hj2 : j.toNat < (A8 g i).length := by omega
     have hqm : (A8 g i).getD j.toNat 0 ∈ A8 g i := Br hj2
     have htk : (A8 g i).take (j.toNat + 1) = (A8 g i).take j.toNat ++ [(A8 g i).getD j.toNat 0] := by
      rw [Qe9 hj2, getD_eq hj2]
     have hqr := hv i hir _ hqm; have hcq := hcn _ hqr; have hd1 := hrl i.toNat ((A8 g i).getD j.toNat 0) (by omega); have hd2 : ((A8 g i).take j.toNat).count ((A8 g i).getD j.toNat 0) ≤ 1000000 := Qc0 Qc2 (by rw [Qa9]; omega)
     show Ad _ _; have hqe : (g.getD i.toNat Aj).1.getD j.toNat 0 = (A8 g i).getD j.toNat 0 := rfl; rw [hqe]; generalize (A8 g i).getD j.toNat 0 = q at hqm htk hqr hcq hd1 hd2 ⊢
     have hql : q.toNat < ch.length := by have := hqr.1; have := hqr.2; omega
     have hqlt : q < ((ch.length : Nat) : Int) := by have := hqr.2; omega
     refine Ad.mid (fun t => t = ch.set q.toNat (ch.getD q.toNat 0 + 1)) ⟨⟨j0, hj⟩, hj2, ⟨hqr.1, hqlt⟩, hql, ⟨hqr.1, hqlt⟩, hql, by rw [w64 (by omega) (by omega)]⟩ ?_; rintro t rfl; rw [w64 (by omega) (by omega)]; refine ⟨⟨⟨by omega, by omega⟩, by rw [Qb1]; exact hl, fun p hp => ?_⟩, by omega⟩
     rw [E4 hql, show (j + 1).toNat = j.toNat + 1 by omega, htk, Qb8, List.count_singleton]; have hp0 := hp.1; have hq0 := hqr.1
     by_cases e : p = q
     ·subst e; rw [if_pos rfl, hcq]; simp; omega
     ·rw [if_neg (by omega), hcn p hp]
      have : (q == p) = false := beq_eq_false_iff_ne.2 fun h => e h.symm
      rw [this]; simp
    ·have hj : ¬ j < (A8 g i).length := of_decide_eq_false hj; refine ⟨hl, fun p hp => ?_⟩; rw [hcn p hp, Qa8 (by omega), hnx]
   ·rintro t ⟨ht, htc⟩; rw [w64 (by omega) (by omega)]; exact ⟨⟨⟨by omega, by omega⟩, ht, by rw [show (i + 1).toNat = i.toNat + 1 by omega]; exact htc⟩, by omega⟩
  ·have hi := of_decide_eq_false hi; rw [show i.toNat = g.length by omega] at hcn; exact ⟨hl, hcn⟩
 rintro ch ⟨hl, hcn⟩; refine Ad.mid (fun out => Up3 g ch out 0) ?_ ?_
 ·refine AF.of (fun q => (0 ≤ q.2 ∧ q.2 ≤ g.length) ∧ q.1.Nodup ∧ ∀ x, x ∈ q.1 ↔ (0 ≤ x ∧ x < q.2) ∧ ch.getD x.toNat 0 = 0) (fun q => (g.length - q.2).toNat) ⟨⟨Qa1 _, Qa3 _⟩, List.nodup_nil, fun x => ⟨fun h => (nomatch h), fun h => by have := h.1.1; have := h.1.2; omega⟩⟩ ?_
  rintro ⟨out, i⟩ ⟨⟨i0, i1⟩, hnd2, hm⟩; dsimp only at i0 i1 hnd2 hm ⊢
  have hol : out.length ≤ g.length := Uk hnd2 fun p hp => ⟨((hm p).1 hp).1.1, by have := ((hm p).1 hp).1.2; omega⟩
  refine ⟨fun hi => ?_, fun hi => ?_⟩
  ·have hi := of_decide_eq_true hi
   have hi2 : i.toNat < ch.length := by omega
   refine Ad.mid (fun t => t.Nodup ∧ ∀ x, x ∈ t ↔ (0 ≤ x ∧ x < i + 1) ∧ ch.getD x.toNat 0 = 0) ⟨⟨i0, hi⟩, hi2, ?_⟩ fun t ht => ?_
   ·refine Ad.mid (fun t => t.Nodup ∧ ∀ x, x ∈ t ↔ (0 ≤ x ∧ x < i + 1) ∧ ch.getD x.toNat 0 = 0) ⟨fun hz => ⟨by simp only [Qa2, Qa5]; omega, ?_, fun x => ?_⟩, fun hz => ⟨hnd2, fun x => ?_⟩⟩ fun _ h => h
    ·rw [Qe4]; refine ⟨hnd2, by simp, fun a ha b hb e => ?_⟩; rw [Qc1] at hb; have := ((hm a).1 ha).1.2; omega
    ·have hz : ch.getD i.toNat 0 = 0 := by simpa using hz
     rw [Qg9, Qc1, hm x]; constructor
     ·rintro (⟨h1, h2⟩ | rfl)
      ·exact ⟨⟨h1.1, by omega⟩, h2⟩
      ·exact ⟨⟨i0, by omega⟩, hz⟩
     ·rintro ⟨h1, h2⟩
      by_cases e : x = i
      ·exact .inr e
      ·exact .inl ⟨⟨h1.1, by omega⟩, h2⟩
    ·have hz : ch.getD i.toNat 0 ≠ 0 := by simpa using hz
     rw [hm x]; constructor
     ·rintro ⟨h1, h2⟩; exact ⟨⟨h1.1, by omega⟩, h2⟩
     ·rintro ⟨h1, h2⟩
      by_cases e : x = i
      ·exact absurd (by rw [← e]; exact h2) hz
      ·exact ⟨⟨h1.1, by omega⟩, h2⟩
   ·rw [w64 (by omega) (by omega)]; exact ⟨⟨⟨by omega, by omega⟩, ht⟩, by omega⟩
  ·have hi := of_decide_eq_false hi; refine ⟨hl, fun p hp => ?_, fun p hp => ?_, fun p hp => ?_, hnd2, fun k hk c hc hp => ?_, Qd7 _⟩
   ·rw [hcn p hp, List.take_zero, AdA]
   ·rw [hm p]; exact ⟨fun h => h.2, fun h => ⟨⟨hp.1, by have := hp.2; omega⟩, h⟩⟩
   ·exact ⟨((hm p).1 hp).1.1, by have := ((hm p).1 hp).1.2; omega⟩
   ·have hz := ((hm _).1 (Br (d := (0 : Int)) hk)).2
    have hr : inR g (out.getD k 0) := ⟨((hm _).1 (Br (d := (0 : Int)) hk)).1.1, by have := ((hm _).1 (Br (d := (0 : Int)) hk)).1.2; omega⟩
    rw [hcn _ hr] at hz
    have hz2 : DE g (rng g.length) (out.getD k 0) = 0 := by omega
    exact absurd hp (Lk.1 hz2 c (D4.2 hc))
 intro out0 hU0
 refine Ad.mid (fun out => UpG g out) ?_ fun _ h => h
 refine AF.of (fun q => 0 ≤ q.2.2 ∧ Up3 g q.1 q.2.1 q.2.2.toNat) (fun q => (g.length - q.2.2).toNat) ⟨Qa1 _, hU0⟩ ?_; rintro ⟨ch, out, k⟩ ⟨k0, hU⟩; dsimp only at k0 hU ⊢; have hol := Uk hU.nd hU.rn; have hkl := hU.kl; refine ⟨fun hk => ?_, fun hk => ?_⟩
 ·have hk := of_decide_eq_true hk
  have hk2 : k.toNat < out.length := by omega
  have hcm : out.getD k.toNat 0 ∈ out := Br hk2; have hcr := hU.rn _ hcm
  have hpre : out.take (k.toNat + 1) = out.take k.toNat ++ [out.getD k.toNat 0] := by rw [Qe9 hk2, getD_eq hk2]
  have hcn2 : out.getD k.toNat 0 ∉ out.take k.toNat := fun hm => by
   have h2 : (out.take (k.toNat + 1)).Nodup := List.Nodup.sublist (List.take_sublist _ _) hU.nd; rw [hpre, Qe4] at h2; exact h2.2.2 _ hm _ (List.mem_singleton.2 rfl) rfl
  generalize hc : out.getD k.toNat 0 = c at hcm hcr hpre hcn2
  have hcl : c.toNat < g.length := by have := hcr.1; have := hcr.2; omega
  have hpc := hpl c hcr
  refine Ad.mid (fun q => Up3 g q.1 q.2 (k.toNat + 1)) ⟨⟨k0, hk⟩, hk2, ?_⟩ fun q hq => ?_
  ·refine ⟨⟨hcr.1, hcr.2⟩, hcl, ?_⟩
   refine Ad.mid (fun q => Up3 g q.1 q.2 (k.toNat + 1)) ?_ fun _ h => h
   show AF _ _; refine AF.of (fun q => (0 ≤ q.2.2 ∧ q.2.2 ≤ (A8 g c).length) ∧ Up4 g c (out.take (k.toNat + 1)) q.1 q.2.1 k.toNat q.2.2.toNat) (fun q => ((A8 g c).length - q.2.2).toNat) ⟨⟨Qa1 _, Qa3 _⟩, hU.len, fun p hp => ?_, hU.mem, hU.rn, hU.nd, hU.ord, rfl, hk2⟩ ?_
   ·rw [hU.cnt p hp, ZD p hcn2 hcr, ← hpre]; rfl
   rintro ⟨ch, out', j⟩ ⟨⟨j0, j1⟩, hV⟩; dsimp only at j0 j1 hV ⊢; have hol' := Uk hV.nd hV.rn; refine ⟨fun hj => ?_, fun hj => ?_⟩
   ·have hj : j < (A8 g c).length := of_decide_eq_true hj
    have hj2 : j.toNat < (A8 g c).length := by omega
    have hqm : (A8 g c).getD j.toNat 0 ∈ A8 g c := Br hj2; have hqr := hv c hcr _ hqm; obtain ⟨hdr, hdz⟩ := AcU (hnd c hcr) hj2; show Ad _ _; have hqe : (g.getD c.toNat Aj).1.getD j.toNat 0 = (A8 g c).getD j.toNat 0 := rfl; rw [hqe]; generalize (A8 g c).getD j.toNat 0 = q at hqm hqr hdr hdz ⊢
    have hql : q.toNat < ch.length := by have := hqr.1; have := hqr.2; have := hV.len; omega
    have hqlt : q < ((ch.length : Nat) : Int) := by have := hqr.2; have := hV.len; omega
    have hcq := hV.cnt q hqr
    have hdb : DE g (HG g (out.take (k.toNat + 1))) q ≤ g.length := by
     refine Qc0 (hc1 _ q fun x hx => (PH.1 hx).1) ?_; unfold HG; exact Qc0 (Qc4 ..) (by rw [FM]; exact Qc8 _)
    rw [hdr, Qh6, hdz] at hcq
    have hw : IntKind.i64.wrap (ch.getD q.toNat 0 - 1) = ((DE g (HG g (out.take (k.toNat + 1))) q : Nat) : Int) := by rw [w64 (by omega) (by omega)]; omega
    rw [hw]
    have hgs : (ch.set q.toNat ((DE g (HG g (out.take (k.toNat + 1))) q : Nat) : Int)).getD q.toNat 0 = ((DE g (HG g (out.take (k.toNat + 1))) q : Nat) : Int) := by rw [E4 hql, if_pos rfl]
    rw [hgs]; have hls : (ch.set q.toNat ((DE g (HG g (out.take (k.toNat + 1))) q : Nat) : Int)).length = ch.length := Qb1
    have hqno : q ∉ out' := fun hm => by
     have := (hV.mem q hqr).1 hm; omega
    have hcnt : ∀ p, inR g p → (ch.set q.toNat ((DE g (HG g (out.take (k.toNat + 1))) q : Nat) : Int)).getD p.toNat 0 = ((DE g (HG g (out.take (k.toNat + 1))) p + ((A8 g c).drop (j.toNat + 1)).count p : Nat) : Int) := fun p hp => by
     rw [E4 hql]; have hp0 := hp.1; have hq0 := hqr.1
     by_cases e : p = q
     ·subst e; rw [if_pos rfl, hdz]; rfl
     ·rw [if_neg (by omega), hV.cnt p hp, hdr, Qh2 (fun h => e h.symm)]
    have hgo : ∀ p, inR g p → p ≠ q → (ch.set q.toNat ((DE g (HG g (out.take (k.toNat + 1))) q : Nat) : Int)).getD p.toNat 0 = ch.getD p.toNat 0 := fun p hp e => by
     rw [E4 hql]; have hp0 := hp.1; have hq0 := hqr.1; rw [if_neg (by omega)]
    have hkl := hV.kl
    have hqp : ∀ c', inR g c' → DE g (HG g (out.take (k.toNat + 1))) q = 0 → q ∈ A8 g c' → c' ∈ out' := fun c' hc' hz hq => by
     by_cases e : c' ∈ out.take (k.toNat + 1)
     ·rw [← hV.pre] at e; exact Qh8 e
     ·exact absurd hq (Lk.1 hz c' (PH.2 ⟨hc', e⟩))
    generalize hch : ch.set q.toNat ((DE g (HG g (out.take (k.toNat + 1))) q : Nat) : Int) = ch' at *; refine Ad.mid (fun d => Up4 g c (out.take (k.toNat + 1)) d.1 d.2 k.toNat (j.toNat + 1)) ⟨⟨j0, hj⟩, hj2, ⟨hqr.1, hqlt⟩, hql, ⟨hqr.1, hqlt⟩, hql, ⟨hqr.1, by rw [hls]; exact hqlt⟩, by rw [hls]; exact hql, ?_⟩ ?_
    ·refine Ad.mid (fun d => Up4 g c (out.take (k.toNat + 1)) ch' d k.toNat (j.toNat + 1)) ⟨fun hz => ⟨by simp only [Qa2, Qa5]; omega, ?_⟩, fun hz => ?_⟩ fun _ h => h
     ·have hz : DE g (HG g (out.take (k.toNat + 1))) q = 0 := by
       have : ((DE g (HG g (out.take (k.toNat + 1))) q : Nat) : Int) = 0 := beq_iff_eq.1 hz; omega
      refine ⟨by rw [hls]; exact hV.len, hcnt, fun p hp => ?_, fun p hp => ?_, ?_, fun i hi c' hc' hp => ?_, ?_, by rw [Qa7]; omega⟩
      ·rw [Qg9, Qc1]
       by_cases e : p = q
       ·subst e; exact ⟨fun _ => by rw [hgs, hz]; rfl, fun _ => .inr rfl⟩
       ·rw [hgo p hp e, ← hV.mem p hp]; exact ⟨fun h => h.resolve_right e, .inl⟩
      ·rcases List.mem_append.1 hp with hp | hp
       ·exact hV.rn p hp
       ·rw [List.mem_singleton.1 hp]; exact hqr
      ·rw [Qe4]; refine ⟨hV.nd, by simp, fun a ha b hb e => ?_⟩; rw [Qc1] at hb; exact hqno (by rw [← hb, ← e]; exact ha)
      ·by_cases e : i < out'.length
       ·rw [Oo e] at hp; rw [Qd3 (by omega)]; exact hV.ord i e c' hc' hp
       ·rw [Qa7] at hi; simp only [Qa2, Qa5] at hi
        obtain rfl : i = out'.length := by omega
        rw [Qz] at hp; rw [Qd3 (Qc8 _), Qg3]; exact hqp c' hc' hz hp
      ·rw [Qd3 (by omega)]; exact hV.pre
     ·have hz : ((DE g (HG g (out.take (k.toNat + 1))) q : Nat) : Int) ≠ 0 := by simpa using hz
      refine ⟨by rw [hls]; exact hV.len, hcnt, fun p hp => ?_, hV.rn, hV.nd, hV.ord, hV.pre, hV.kl⟩
      by_cases e : p = q
      ·subst e; exact ⟨fun h => absurd h hqno, fun h => absurd (by rw [hgs] at h; exact h) hz⟩
      ·rw [hgo p hp e]; exact hV.mem p hp
    ·rintro ⟨ch2, o⟩ hq; rw [w64 (by omega) (by omega)]; exact ⟨⟨⟨by omega, by omega⟩, by rw [show (j + 1).toNat = j.toNat + 1 by omega]; exact hq⟩, by omega⟩
   ·have hj : ¬ j < (A8 g c).length := of_decide_eq_false hj; refine ⟨hV.len, fun p hp => ?_, hV.mem, hV.rn, hV.nd, hV.ord, hV.kl⟩; rw [hV.cnt p hp, Qe5 (by omega), hV.pre]; rfl
  ·rw [w64 (by omega) (by omega)]; exact ⟨⟨by omega, by rw [show (k + 1).toNat = k.toNat + 1 by omega]; exact hq⟩, by omega⟩
 ·have hk := of_decide_eq_false hk; refine ⟨hU.nd, hU.rn, hU.ord, fun p hp hpo => ?_⟩
  have h1 : ch.getD p.toNat 0 ≠ 0 := fun h => hpo ((hU.mem p hp).2 h)
  rw [hU.cnt p hp, Qa8 (by omega)] at h1
  have h2 : ¬ DE g (HG g out) p = 0 := by omega
  rw [Lk] at h2
  by_cases e : ∃ c, inR g c ∧ c ∉ out ∧ p ∈ A8 g c
  ·exact e
  ·exact absurd (fun c hc hpc => e ⟨c, (PH.1 hc).1, (PH.1 hc).2, hpc⟩) h2
def Il (g : List Ai) : Prop := g.length ≤ 300 ∧ ∀ c ∈ g, c.1.length ≤ 32
def Pb (n : Nat) (l : List Int) (j : Nat) : Prop := (0 ≤ l.getD j 0 ∧ l.getD j 0 < (n : Int)) ∧ l.getD j 0 ∉ l.take j
def Po (n : Nat) (l : List Int) : Prop := ∀ j, j < l.length → Pb n l j
def G7 (g : List Ai) : Prop := ∀ c ∈ g, Po g.length c.1
def Ob (g : List Ai) : Prop := ∀ c ∈ g, 0 ≤ c.2.1 ∧ c.2.1 ≤ 2147483647
def GP : List Ai → Int
 | [] => 0
 | c :: g => if Fm c.2.2 ≠ 0 then Fm c.2.2 else GP g
def Dt (g : List Ai) (e : Int) : Prop := (¬Il g → e = 1) ∧ (Il g → ¬G7 g → e = 230) ∧ (Il g → G7 g → Lz g → e = 231) ∧ (Il g → G7 g → ¬Lz g → ¬Ob g → e = 3) ∧ (Il g → G7 g → ¬Lz g → Ob g → e = GP g)
theorem Ju {g : List Ai} {e d : Int} (h : Dt g e) (k : Dt g d) : e = d := by
 by_cases h1 : Il g
 ·by_cases h2 : G7 g
  ·by_cases h3 : Lz g
   ·rw [h.2.2.1 h1 h2 h3, k.2.2.1 h1 h2 h3]
   ·by_cases h4 : Ob g
    ·rw [h.2.2.2.2 h1 h2 h3 h4, k.2.2.2.2 h1 h2 h3 h4]
    ·rw [h.2.2.2.1 h1 h2 h3 h4, k.2.2.2.1 h1 h2 h3 h4]
  ·rw [h.2.1 h1 h2, k.2.1 h1 h2]
 ·rw [h.1 h1, k.1 h1]
theorem XQ {g : List Ai} (h : ¬Il g) : Dt g 1 := ⟨fun _ => rfl, fun k => absurd k h, fun k => absurd k h, fun k => absurd k h, fun k => absurd k h⟩
theorem AbC {g : List Ai} (k : Il g) (h : ¬G7 g) : Dt g 230 := ⟨fun h => absurd k h, fun _ _ => rfl, fun _ k => absurd k h, fun _ k => absurd k h, fun _ k => absurd k h⟩
theorem AbD {g : List Ai} (k : Il g) (k2 : G7 g) (h : Lz g) : Dt g 231 := ⟨fun h => absurd k h, fun _ h => absurd k2 h, fun _ _ _ => rfl, fun _ _ k => absurd h k, fun _ _ k => absurd h k⟩
theorem AbE {g : List Ai} (k : Il g) (k2 : G7 g) (h : ¬Lz g) (h4 : ¬Ob g) : Dt g 3 := ⟨fun h => absurd k h, fun _ h => absurd k2 h, fun _ _ k => absurd k h, fun _ _ _ _ => rfl, fun _ _ _ k => absurd k h4⟩
theorem Oy {g : List Ai} (k : Il g) (k2 : G7 g) (h : ¬Lz g) (h4 : Ob g) {e : Int} (he : e = GP g) : Dt g e := ⟨fun h => absurd k h, fun _ h => absurd k2 h, fun _ _ k => absurd k h, fun _ _ _ k => absurd h4 k, fun _ _ _ _ => he⟩
theorem Ef {g : List Ai} {i : Nat} (hi : i < g.length) : g.getD i ([], (0, [])) ∈ g := Br hi
theorem Wr {g : List Ai} {i j : Nat} (hi : i < g.length) (hj : j < (g.getD i ([], (0, []))).1.length) (h : ¬Pb g.length (g.getD i ([], (0, []))).1 j) : ¬G7 g := fun k => h (k _ (Ef hi) j hj)
theorem CO {α : Type} {l : List α} {d : α} {p : α → Prop} (h : ∀ j, j < l.length → p (l.getD j d)) : ∀ x ∈ l, p x := by
 intro x hx; obtain ⟨j, hj⟩ := Qb7 hx; have hl : j < l.length := (List.getElem?_eq_some_iff.1 hj).1; have := h j hl; rw [Qa0, hj, Qb6] at this; exact this
theorem HD {g : List Ai} (h : G7 g) : Sm g := by
 intro c hc p hp; obtain ⟨j, hj⟩ := Qb7 hp; have hl : j < (A8 g c).length := (List.getElem?_eq_some_iff.1 hj).1; have := (h _ (Ef (g := g) (i := c.toNat) (by have := hc.1; have := hc.2; omega)) j hl).1
 have e : (A8 g c).getD j 0 = p := by rw [Qa0, hj, Qb6]
 have this : 0 ≤ (A8 g c).getD j 0 ∧ (A8 g c).getD j 0 < (g.length : Int) := this; rw [e] at this; exact this
theorem Adv {g : List Ai} (h : G7 g) : ndG g := by
 intro c hc; have hr : Po g.length (A8 g c) := h _ (Ef (g := g) (i := c.toNat) (by have := hc.1; have := hc.2; omega))
 rw [Qc5, Qc7]; intro i j hi hj hij e; refine (hr j hj).2 ?_; rw [Qa0, Qa4 hj, Qb6, ← e]; refine List.mem_of_getElem? (i := i) ?_; rw [Qg4 hij, Qa4 hi]
theorem PF {g : List Ai} (h : Il g) : ∀ c, inR g c → (A8 g c).length ≤ 1000000 := fun c hc => by
 have := h.2 _ (Ef (g := g) (i := c.toNat) (by have := hc.1; have := hc.2; omega))
 have : (A8 g c).length ≤ 32 := this; omega
theorem Rw {g : List Ai} {i : Nat} (hi : i < g.length) : GP (g.drop i) = if Fm (g.getD i ([], (0, []))).2.2 ≠ 0 then Fm (g.getD i ([], (0, []))).2.2 else GP (g.drop (i + 1)) := by
 rw [Qc6 hi, Qa0, Qa4 hi, Qb6]; rfl
theorem Uj (x : Int) (n : Nat) : (cond (decide (x < 0)) true (decide (x ≥ (n : Int)))) = false ↔ (0 ≤ x ∧ x < (n : Int)) := by
 rw [Qb5]
 by_cases h : x < 0
 ·rw [if_pos (decide_eq_true h)]; exact ⟨fun k => (by cases k), fun k => absurd k.1 (by omega)⟩
 ·rw [if_neg (by simpa using h)]; exact ⟨fun k => (by have := of_decide_eq_false k; omega), fun k => decide_eq_false (by omega)⟩
theorem PJ (x : Int) : (cond (decide (x < (0 : Int))) true (decide (x > (2147483647 : Int)))) = false ↔ (0 ≤ x ∧ x ≤ 2147483647) := by
 rw [Qb5]
 by_cases h : x < 0
 ·rw [if_pos (decide_eq_true h)]; exact ⟨fun k => (by cases k), fun k => absurd k.1 (by omega)⟩
 ·rw [if_neg (by simpa using h)]; exact ⟨fun k => (by have := of_decide_eq_false k; omega), fun k => decide_eq_false (by omega)⟩
def Tw (P : Pg) : Prop := ∀ x : List Int × Int, x.1.length ≤ 1000000 → Fn P "slices.Index[[]int,int]" Bu x fun (d : Int) _ => decide (d ≥ 0) = true ↔ x.2 ∈ x.1
theorem AdI (h : Has P C8) : Tw P := by
 rintro ⟨l, v⟩ hl; dsimp only at hl; refine IW h ?_; unfold Fx; dsimp only
 refine Ad.mid (fun _ => v ∉ l) ?_ fun _ h => ⟨fun k => absurd (of_decide_eq_true k) (by omega), fun k => absurd k h⟩
 refine AF.of (fun q => (0 ≤ q.2 ∧ q.2 ≤ l.length) ∧ ∀ j, j < q.2.toNat → l.getD j 0 ≠ v) (fun q => (l.length - q.2).toNat) ⟨⟨Qa1 _, by dsimp only; omega⟩, fun j hj => absurd hj (by simp)⟩ ?_
 rintro ⟨q, i⟩ ⟨⟨i0, i1⟩, hq⟩; dsimp only at i0 i1 hq ⊢; refine ⟨fun hi => ?_, fun hi => ?_⟩
 ·have hi := of_decide_eq_true hi
  have hi2 : i.toNat < l.length := by omega
  refine Ad.mid (fun _ => l.getD i.toNat 0 ≠ v) ⟨⟨i0, hi⟩, hi2, fun hb => ?_, fun hb => ?_⟩ fun _ hn => ?_
  ·have e : v = l.getD i.toNat 0 := by simpa using hb
   exact ⟨fun _ => e ▸ Br hi2, fun _ => decide_eq_true (by omega)⟩
  ·exact fun e => by rw [e] at hb; simp at hb
  ·rw [w64 (by omega) (by omega)]; refine ⟨⟨⟨by omega, by omega⟩, fun j hj => ?_⟩, by omega⟩
   by_cases hji : j = i.toNat
   ·subst hji; exact hn
   ·exact hq j (by omega)
 ·have hi := of_decide_eq_false hi
  exact fun hv => CO (p := fun x => x ≠ v) (d := 0) (fun j hj => hq j (by omega)) v hv rfl
def PR (P : Pg) : Prop := ∀ x : List Int × Int, x.1.length ≤ 1000000 → Fn P "slices.Contains[[]int,int]" Bj x fun (d : Bool) _ => d = true ↔ x.2 ∈ x.1
theorem Ab3 (h : Has P Cw) (hI : Tw P) : PR P := by
 intro x hx; refine Hw h ?_; unfold ET
 exact (hI x hx).to fun (d : Int) _ hd => hd
def Tx (P : Pg) : Prop := ∀ x : List Int × Int, x.1.length ≤ 1000000 → Fn P Acy DY x fun (d : Bool) _ => d = true ↔ x.2 ∈ x.1
theorem AdK (h : Has P HZ) : Tx P := by
 rintro ⟨l, v⟩ hl; dsimp only at hl; refine TU h ?_; unfold OT; dsimp only
 refine Ad.mid (fun _ => v ∉ l) ?_ fun _ h => ⟨fun k => (by cases k), fun k => absurd k h⟩
 refine AF.of (fun q => (0 ≤ q.2 ∧ q.2 ≤ l.length) ∧ ∀ j, j < q.2.toNat → l.getD j 0 ≠ v) (fun q => (l.length - q.2).toNat) ⟨⟨Qa1 _, by dsimp only; omega⟩, fun j hj => absurd hj (by simp)⟩ ?_
 rintro ⟨q, i⟩ ⟨⟨i0, i1⟩, hq⟩; dsimp only at i0 i1 hq ⊢; refine ⟨fun hi => ?_, fun hi => ?_⟩
 ·have hi := of_decide_eq_true hi
  have hi2 : i.toNat < l.length := by omega
  refine Ad.mid (fun _ => l.getD i.toNat 0 ≠ v) ⟨⟨i0, hi⟩, hi2, fun hb => ?_, fun hb => ?_⟩ fun _ hn => ?_
  ·have e : l.getD i.toNat 0 = v := by simpa using hb
   exact ⟨fun _ => e ▸ Br hi2, fun _ => rfl⟩
  ·exact fun e => by rw [e] at hb; simp at hb
  ·rw [w64 (by omega) (by omega)]; refine ⟨⟨⟨by omega, by omega⟩, fun j hj => ?_⟩, by omega⟩
   by_cases hji : j = i.toNat
   ·subst hji; exact hn
   ·exact hq j (by omega)
 ·have hi := of_decide_eq_false hi
  exact fun hv => CO (p := fun x => x ≠ v) (d := 0) (fun j hj => hq j (by omega)) v hv rfl
def W9 (P : Pg) : Prop := ∀ l : List Ai, l.length ≤ 1000000 → Fn P zS7 Aq (l, ()) fun (d : Int) _ => decide (d ≥ 0) = false ↔ ∀ c ∈ l, c.1.length ≤ 32
theorem AeO (h : Has P AN) (h1 : Has P Fa) : W9 P := by
 intro l hl; refine CP h ?_; unfold BM; dsimp only
 refine Ad.mid (fun _ => ∀ c ∈ l, c.1.length ≤ 32) ?_ fun _ h => ⟨fun _ => h, fun _ => rfl⟩
 refine AF.of (fun q => (0 ≤ q.2 ∧ q.2 ≤ l.length) ∧ ∀ j, j < q.2.toNat → (l.getD j ([], (0, []))).1.length ≤ 32) (fun q => (l.length - q.2).toNat) ⟨⟨Qa1 _, by dsimp only; omega⟩, fun j hj => absurd hj (by simp)⟩ ?_
 rintro ⟨q, i⟩ ⟨⟨i0, i1⟩, hq⟩; dsimp only at i0 i1 hq ⊢; refine ⟨fun hi => ?_, fun hi => ?_⟩
 ·have hi := of_decide_eq_true hi
  have hi2 : i.toNat < l.length := by omega
  refine Ad.mid (fun _ => (l.getD i.toNat ([], (0, []))).1.length ≤ 32) ⟨⟨i0, hi⟩, hi2, Ol h1 ⟨fun hb => ?_, fun hb => ?_⟩⟩ fun _ hn => ?_
  ·have hb := of_decide_eq_true hb; have hb : (((l.getD i.toNat ([], (0, []))).1.length : Nat) : Int) > 32 := hb; exact ⟨fun k => absurd (of_decide_eq_false k) (by omega), fun k => absurd (k _ (Ef hi2)) (by omega)⟩
  ·have hb := of_decide_eq_false hb; have hb : ¬((((l.getD i.toNat ([], (0, []))).1.length : Nat) : Int) > 32) := hb; show (l.getD i.toNat ([], (0, []))).1.length ≤ 32; omega
  ·rw [w64 (by omega) (by omega)]; refine ⟨⟨⟨by omega, by omega⟩, fun j hj => ?_⟩, by omega⟩
   by_cases hji : j = i.toNat
   ·subst hji; exact hn
   ·exact hq j (by omega)
 ·have hi := of_decide_eq_false hi
  exact CO (d := ([], (0, []))) fun j hj => hq j (by omega)
def Xb (P : Pg) : Prop := ∀ l : List Ai, l.length ≤ 1000000 → Fn P zS8 Am (l, ()) fun (d : Bool) _ => d = false ↔ ∀ c ∈ l, c.1.length ≤ 32
theorem AeQ (h : Has P AK) (hI : W9 P) : Xb P := by
 intro l hl; refine Cy h ?_; unfold BA
 exact (hI l hl).to fun (d : Int) _ hd => hd
def L5 (P : Pg) : Prop := ∀ l : List Ai, Fn P Acq Da l fun (d : Bool) _ => d = true ↔ Il l
theorem Yl (h : Has P Gg) (hX : Xb P) : L5 P := by
 intro l; refine Qk h ?_; unfold LG
 refine Ad.mid (fun d => l.length ≤ 300 → (d = false ↔ ∀ c ∈ l, c.1.length ≤ 32)) ⟨fun hc => ?_, fun hc hl => absurd (of_decide_eq_false hc) (by omega), trivial⟩ fun d hd => ?_
 ·have hc := of_decide_eq_true hc
  exact (hX l (by omega)).to fun (d : Bool) _ hd _ => hd
 ·by_cases hl : l.length ≤ 300
  ·have hd := hd hl; rw [decide_eq_true (show ((l.length : Nat) : Int) ≤ 300 by omega)]; unfold Il
   cases d with
   | false => exact ⟨fun _ => ⟨hl, hd.1 rfl⟩, fun _ => rfl⟩
   | true => exact ⟨fun k => (by cases k), fun k => (by have := hd.2 k.2; cases this)⟩
  ·rw [decide_eq_false (show ¬((l.length : Nat) : Int) ≤ 300 by omega)]; exact ⟨fun k => (by cases k), fun k => absurd k.1 hl⟩
def Xa (P : Pg) : Prop := ∀ l : List Ai, l.length ≤ 1000000 → Fn P zS7 Av (l, ()) fun (d : Int) _ => decide (d ≥ 0) = false ↔ Ob l
theorem AeP (h : Has P AW) (h1 : Has P Gf) : Xa P := by
 intro l hl; refine C3 h ?_; unfold BQ; dsimp only
 refine Ad.mid (fun _ => Ob l) ?_ fun _ h => ⟨fun _ => h, fun _ => rfl⟩
 refine AF.of (fun q => (0 ≤ q.2 ∧ q.2 ≤ l.length) ∧ ∀ j, j < q.2.toNat → 0 ≤ (l.getD j ([], (0, []))).2.1 ∧ (l.getD j ([], (0, []))).2.1 ≤ 2147483647) (fun q => (l.length - q.2).toNat) ⟨⟨Qa1 _, by dsimp only; omega⟩, fun j hj => absurd hj (by simp)⟩ ?_
 rintro ⟨q, i⟩ ⟨⟨i0, i1⟩, hq⟩; dsimp only at i0 i1 hq ⊢; refine ⟨fun hi => ?_, fun hi => ?_⟩
 ·have hi := of_decide_eq_true hi
  have hi2 : i.toNat < l.length := by omega
  refine Ad.mid (fun _ => 0 ≤ (l.getD i.toNat ([], (0, []))).2.1 ∧ (l.getD i.toNat ([], (0, []))).2.1 ≤ 2147483647) ⟨⟨i0, hi⟩, hi2, Qj h1 ⟨fun hb => ?_, fun hb => ?_⟩⟩ fun _ hn => ?_
  ·refine ⟨fun k => absurd (of_decide_eq_false k) (by omega), fun k => ?_⟩; have := (PJ _).2 (k _ (Ef hi2)); exact absurd (this.symm.trans hb) (by simp)
  ·exact (PJ _).1 hb
  ·rw [w64 (by omega) (by omega)]; refine ⟨⟨⟨by omega, by omega⟩, fun j hj => ?_⟩, by omega⟩
   by_cases hji : j = i.toNat
   ·subst hji; exact hn
   ·exact hq j (by omega)
 ·have hi := of_decide_eq_false hi
  exact CO (d := ([], (0, []))) (p := fun c => 0 ≤ c.2.1 ∧ c.2.1 ≤ 2147483647) fun j hj => hq j (by omega)
def Xc (P : Pg) : Prop := ∀ l : List Ai, l.length ≤ 1000000 → Fn P zS8 Ap (l, ()) fun (d : Bool) _ => d = false ↔ Ob l
theorem AeR (h : Has P AL) (hI : Xa P) : Xc P := by
 intro l hl; refine CI h ?_; unfold BG
 exact (hI l hl).to fun (d : Int) _ hd => hd
def L6 (P : Pg) : Prop := ∀ g : List Ai, Il g → Fn P Acr Db g fun (d : Bool) _ => d = true ↔ G7 g
theorem Yn (h : Has P Gh) (hC : PR P) : L6 P := by
 intro g hlim; refine Ql h ?_; unfold LH; have hg := hlim.1
 refine Ad.mid (fun _ => G7 g) ?_ fun _ h => ⟨fun _ => h, fun _ => rfl⟩
 refine AF.of (fun q => (0 ≤ q.2 ∧ q.2 ≤ g.length) ∧ ∀ j, j < q.2.toNat → Po g.length (g.getD j ([], (0, []))).1) (fun q => (g.length - q.2).toNat) ⟨⟨Qa1 _, by dsimp only; omega⟩, fun j hj => absurd hj (by simp)⟩ ?_
 rintro ⟨q, i⟩ ⟨⟨i0, i1⟩, hq⟩; dsimp only at i0 i1 hq ⊢; refine ⟨fun hi => ?_, fun hi => ?_⟩
 ·have hi := of_decide_eq_true hi
  have hi2 : i.toNat < g.length := by omega
  have hl : (g.getD i.toNat ([], (0, []))).1.length ≤ 32 := hlim.2 _ (Ef hi2)
  have hbad : ∀ j, j < (g.getD i.toNat ([], (0, []))).1.length → ¬Pb g.length (g.getD i.toNat ([], (0, []))).1 j → ¬G7 g := fun j hj => Wr hi2 hj
  refine Ad.mid (fun _ => Po g.length (g.getD i.toNat ([], (0, []))).1) ⟨⟨i0, hi⟩, hi2, ?_⟩ fun _ hn => ?_
  ·show Ad (D := Bool) _ _; have ez : g.getD i.toNat Aj = g.getD i.toNat ([], (0, [])) := rfl; rw [ez]; generalize (g.getD i.toNat ([], (0, []))).1 = l at hl hbad ⊢
   refine Ad.mid (fun _ => Po g.length l) ?_ fun _ h => h
   refine AF.of (fun q => (0 ≤ q.2 ∧ q.2 ≤ l.length) ∧ ∀ j, j < q.2.toNat → Pb g.length l j) (fun q => (l.length - q.2).toNat) ⟨⟨Qa1 _, by dsimp only; omega⟩, fun j hj => absurd hj (by simp)⟩ ?_
   rintro ⟨r, k⟩ ⟨⟨k0, k1⟩, hk⟩; dsimp only at k0 k1 hk ⊢; refine ⟨fun hki => ?_, fun hki => ?_⟩
   ·have hki := of_decide_eq_true hki
    have hk2 : k.toNat < l.length := by omega
    have hou := Uj (l.getD k.toNat 0) g.length; generalize (cond (decide (l.getD k.toNat 0 < 0)) true (decide (l.getD k.toNat 0 ≥ (g.length : Int)))) = b at hou ⊢
    refine Ad.mid (fun _ => Pb g.length l k.toNat) ⟨⟨k0, hki⟩, hk2, fun _ => ⟨k0, by omega⟩, ?_⟩ fun _ hn => ?_
    ·refine Ad.mid (fun d => b = false → (d = true ↔ l.getD k.toNat 0 ∈ l.take k.toNat)) ⟨fun hc => ?_, fun hc h => (by rw [hc] at h; cases h), trivial⟩ fun d hd => ⟨fun hb => ?_, fun hb => ?_⟩
     ·exact (hC (l.take k.toNat, l.getD k.toNat 0) (by rw [Qa9]; omega)).to fun (d : Bool) _ hd _ => hd
     ·refine ⟨fun k => (by cases k), fun hr => absurd hr (hbad k.toNat hk2 fun ha => ?_)⟩; have hbf := hou.2 ha.1; rw [hbf] at hb; exact ha.2 ((hd hbf).1 hb)
     ·cases b with
      | true => cases hb
      | false => exact ⟨hou.1 rfl, fun hm => (by have := (hd rfl).2 hm; rw [this] at hb; cases hb)⟩
    ·rw [w64 (by omega) (by omega)]; refine ⟨⟨⟨by omega, by omega⟩, fun j hj => ?_⟩, by omega⟩
     by_cases hji : j = k.toNat
     ·subst hji; exact hn
     ·exact hk j (by omega)
   ·have hki := of_decide_eq_false hki
    exact fun j hj => hk j (by omega)
  ·rw [w64 (by omega) (by omega)]; refine ⟨⟨⟨by omega, by omega⟩, fun j hj => ?_⟩, by omega⟩
   by_cases hji : j = i.toNat
   ·subst hji; exact hn
   ·exact hq j (by omega)
 ·have hi := of_decide_eq_false hi
  exact CO (d := ([], (0, []))) (p := fun c => Po g.length c.1) fun j hj => hq j (by omega)
def Mt (g : List Ai) : Prop := ∀ c ∈ g, ∀ f ∈ c.2.2, f.1.length ≤ 140737488351232 ∧ f.2.length ≤ 140737488351232
def AfB (l : List Bh) : Prop := ∀ f ∈ l, f.1.length ≤ 140737488351232 ∧ f.2.length ≤ 140737488351232
def Ie (P : Pg) : Prop := ∀ l : List Bh, AfB l → Fn P Yy CH l fun (d : Int) _ => d = Fm l
theorem Sk (h : Has P Fo) (hT : Fw P) : Ie P := by
 intro l hl
 by_cases hn : l.length ≤ 1000000
 ·exact hT l ⟨hn, hl⟩
 ·refine LS h ?_; unfold Jl
  refine Ad.mid (fun _ => False) ⟨fun hc => ?_, fun hc => absurd (of_decide_eq_false hc) (by omega)⟩ fun _ hh => hh.elim
  unfold Fm; rw [if_pos (by omega)]
def Hk (P : Pg) : Prop := ∀ l : List Bh, AfB l → Fn P YB Cn l fun (d : Int) _ => d = Fm l
theorem Rk (h : Has P EX) (hT : EZ P) : Hk P := by
 intro l hl
 by_cases hn : l.length ≤ 1000000
 ·exact hT l ⟨hn, hl⟩
 ·refine Km h ?_; unfold Ig; refine ⟨fun hc => ?_, fun hc => absurd (of_decide_eq_false hc) (by omega)⟩; unfold Fm; rw [if_pos (by omega)]
def Kb (P : Pg) : Prop := ∀ g : List Ai, Mt g → Fn P Acu DW g fun (d : Int) _ => Dt g d
theorem WG (h : Has P HW) (hL : L5 P) (hR : L6 P) (hU : N3 P) (hX : Xc P) (hT : Ie P) : Kb P := by
 intro g hs; refine TP h ?_; unfold OQ
 refine Ad.mid (fun _ => Il g ∧ G7 g ∧ ¬Lz g ∧ Ob g) ?_ fun d2 hh => ?_
 ·refine (hL g).to ?_; rintro (d : Bool) _ hd; have hd : d = true ↔ Il g := hd; refine ⟨fun hb => XQ fun k => (by rw [hd.2 k] at hb; cases hb), fun hb => ?_⟩
  have k1 : Il g := hd.1 (by cases d with | true => rfl | false => cases hb); clear hd hb; refine (hR g k1).to ?_; rintro (d : Bool) _ hd; have hd : d = true ↔ G7 g := hd; refine ⟨fun hb => AbC k1 fun k => (by rw [hd.2 k] at hb; cases hb), fun hb => ?_⟩
  have k2 : G7 g := hd.1 (by cases d with | true => rfl | false => cases hb); clear hd hb; have hg := k1.1; refine (hU g (by omega) (HD k2) (Adv k2) (PF k1)).to ?_; rintro (u : List Int) _ hu; have hu : UpG g u := hu; have hcy := Ae2 (HD k2) hu; refine ⟨fun hb => AbD k1 k2 (hcy.1 (by have := of_decide_eq_true hb; omega)), fun hb => ?_⟩
  have k3 : ¬Lz g := fun k => by have := hcy.2 k; have := of_decide_eq_false hb; omega
  refine (hX g (by omega)).to ?_; rintro (d : Bool) _ hd; have hd : d = false ↔ Ob g := hd; exact ⟨fun hb => AbE k1 k2 k3 fun k => (by rw [hd.2 k] at hb; cases hb), fun hb => ⟨k1, k2, k3, hd.1 hb⟩⟩
 ·obtain ⟨k1, k2, k3, k4⟩ := hh; have hg := k1.1
  refine Ad.mid (fun _ => GP g = 0) ?_ fun _ h => Oy k1 k2 k3 k4 h.symm
  refine AF.of (fun q => (0 ≤ q.2 ∧ q.2 ≤ g.length) ∧ GP g = GP (g.drop q.2.toNat)) (fun q => (g.length - q.2).toNat) ⟨⟨Qa1 _, by dsimp only; omega⟩, rfl⟩ ?_
  rintro ⟨q, i⟩ ⟨⟨i0, i1⟩, hq⟩; dsimp only at i0 i1 hq ⊢; refine ⟨fun hi => ?_, fun hi => ?_⟩
  ·have hi := of_decide_eq_true hi
   have hi2 : i.toNat < g.length := by omega
   rw [Rw hi2] at hq
   refine Ad.mid (fun _ => Fm (g.getD i.toNat ([], (0, []))).2.2 = 0) ⟨⟨i0, hi⟩, hi2, (hT _ (hs _ (Ef hi2))).to ?_⟩ fun _ hn => ?_
   ·rintro (d : Int) _ hd; have hd : d = Fm (g.getD i.toNat ([], (0, []))).2.2 := hd; rw [← hd] at hq ⊢; refine ⟨fun hb => Oy k1 k2 k3 k4 ?_, fun hb => by simpa using hb⟩; rw [hq, if_pos (by simpa using hb)]
   ·rw [if_neg (by simpa using hn)] at hq; rw [w64 (by omega) (by omega)]; refine ⟨⟨⟨by omega, by omega⟩, ?_⟩, by omega⟩; rw [hq, show (i + 1).toNat = i.toNat + 1 by omega]
  ·have hi := of_decide_eq_false hi; show GP g = 0; rw [hq, Qe5 (by omega)]; rfl
theorem Aeo {g : List Ai} {c : Int} (hc : inR g c) {s : List Bool} (hs : L0 g (A8 g c) s) (h : s.getD c.toNat false = true) : Lz g := by
 obtain ⟨f, hf, hr⟩ := (hs.2 c hc).1 h; exact ⟨c, hc, f, hf, hr⟩
theorem Z2 {g : List Ai} {c : Int} (hc : inR g c) {s : List Bool} (hs : L0 g (A8 g c) s) (h : s.getD c.toNat false = false) : ¬∃ p ∈ A8 g c, Rch g p c := by
 rintro hr; have := (hs.2 c hc).2 hr; unfold inS at this; rw [h] at this; cases this
def Jk (P : Pg) : Prop := ∀ g : List Ai, g.length ≤ 1000000 → Mt g → Fn P Acz De g fun (d : Int) _ => Dt g d
theorem Uz (h : Has P Gm) (hH : Tx P) (hR : Fv P) (hT : Hk P) : Jk P := by
 intro g hgl hs; refine Qq h ?_; unfold LN; refine ⟨fun hc => XQ fun k => absurd k.1 (by have := of_decide_eq_true hc; omega), fun hc => ?_⟩
 have hg : g.length ≤ 300 := by have := of_decide_eq_false hc; omega
 clear hc
 refine Ad.mid (fun _ => ∀ c ∈ g, c.1.length ≤ 32) ?_ fun d2 hlim => ?_
 ·refine AF.of (fun q => (0 ≤ q.2 ∧ q.2 ≤ g.length) ∧ ∀ j, j < q.2.toNat → (g.getD j ([], (0, []))).1.length ≤ 32) (fun q => (g.length - q.2).toNat) ⟨⟨Qa1 _, by dsimp only; omega⟩, fun j hj => absurd hj (by simp)⟩ ?_
  rintro ⟨q, i⟩ ⟨⟨i0, i1⟩, hq⟩; dsimp only at i0 i1 hq ⊢; refine ⟨fun hi => ?_, fun hi => ?_⟩
  ·have hi := of_decide_eq_true hi
   have hi2 : i.toNat < g.length := by omega
   refine Ad.mid (fun _ => (g.getD i.toNat ([], (0, []))).1.length ≤ 32) ⟨⟨i0, hi⟩, hi2, fun hb => ?_, fun hb => ?_⟩ fun _ hn => ?_
   ·have hb := of_decide_eq_true hb; have hb : (((g.getD i.toNat ([], (0, []))).1.length : Nat) : Int) > 32 := hb
    exact XQ fun k => absurd (k.2 _ (Ef hi2)) (by omega)
   ·have hb := of_decide_eq_false hb; have hb : ¬((((g.getD i.toNat ([], (0, []))).1.length : Nat) : Int) > 32) := hb; show (g.getD i.toNat ([], (0, []))).1.length ≤ 32; omega
   ·rw [w64 (by omega) (by omega)]; refine ⟨⟨⟨by omega, by omega⟩, fun j hj => ?_⟩, by omega⟩
    by_cases hji : j = i.toNat
    ·subst hji; exact hn
    ·exact hq j (by omega)
  ·have hi := of_decide_eq_false hi
   exact CO (d := ([], (0, []))) (p := fun c => c.1.length ≤ 32) fun j hj => hq j (by omega)
 have k1 : Il g := ⟨hg, hlim⟩
 clear hlim
 refine Ad.mid (fun _ => G7 g) ?_ fun d8 k2 => ?_
 ·refine AF.of (fun q => (0 ≤ q.2 ∧ q.2 ≤ g.length) ∧ ∀ j, j < q.2.toNat → Po g.length (g.getD j ([], (0, []))).1) (fun q => (g.length - q.2).toNat) ⟨⟨Qa1 _, by dsimp only; omega⟩, fun j hj => absurd hj (by simp)⟩ ?_
  rintro ⟨q, i⟩ ⟨⟨i0, i1⟩, hq⟩; dsimp only at i0 i1 hq ⊢; refine ⟨fun hi => ?_, fun hi => ?_⟩
  ·have hi := of_decide_eq_true hi
   have hi2 : i.toNat < g.length := by omega
   have hl : (g.getD i.toNat ([], (0, []))).1.length ≤ 32 := k1.2 _ (Ef hi2)
   have hbad : ∀ j, j < (g.getD i.toNat ([], (0, []))).1.length → ¬Pb g.length (g.getD i.toNat ([], (0, []))).1 j → ¬G7 g := fun j hj => Wr hi2 hj
   refine Ad.mid (fun _ => Po g.length (g.getD i.toNat ([], (0, []))).1) ?_ fun _ hn => ?_
   ·have ez : g.getD i.toNat Aj = g.getD i.toNat ([], (0, [])) := rfl; rw [ez]; generalize (g.getD i.toNat ([], (0, []))).1 = l at hl hbad ⊢
    refine Ad.mid (fun _ => Po g.length l) ?_ fun _ h => h
    refine AF.of (fun q => (0 ≤ q.2 ∧ q.2 ≤ l.length) ∧ ∀ j, j < q.2.toNat → Pb g.length l j) (fun q => (l.length - q.2).toNat) ⟨⟨Qa1 _, by dsimp only; omega⟩, fun j hj => absurd hj (by simp)⟩ ?_
    rintro ⟨r, k⟩ ⟨⟨k0, kk1⟩, hk⟩; dsimp only at k0 kk1 hk ⊢; refine ⟨⟨i0, hi⟩, hi2, fun hki => ?_, fun hki => ?_⟩
    ·have hki := of_decide_eq_true hki
     have hk2 : k.toNat < l.length := by omega
     have hou := Uj (l.getD k.toNat 0) g.length; generalize (cond (decide (l.getD k.toNat 0 < 0)) true (decide (l.getD k.toNat 0 ≥ (g.length : Int)))) = b at hou ⊢
     refine Ad.mid (fun _ => Pb g.length l k.toNat) ⟨⟨i0, hi⟩, hi2, ⟨k0, hki⟩, hk2, fun _ => ⟨i0, hi⟩, fun _ => hi2, fun _ => ⟨k0, by omega⟩, ?_⟩ fun _ hn => ?_
     ·refine Ad.mid (fun d => b = false → (d = true ↔ l.getD k.toNat 0 ∈ l.take k.toNat)) ⟨fun hc => ?_, fun hc h => (by rw [hc] at h; cases h), trivial⟩ fun d hd => ⟨fun hb => ?_, fun hb => ?_⟩
      ·exact (hH (l.take k.toNat, l.getD k.toNat 0) (by rw [Qa9]; omega)).to fun (d : Bool) _ hd _ => hd
      ·refine AbC k1 (hbad k.toNat hk2 fun ha => ?_); have hbf := hou.2 ha.1; rw [hbf] at hb; exact ha.2 ((hd hbf).1 hb)
      ·cases b with
       | true => cases hb
       | false => exact ⟨hou.1 rfl, fun hm => (by have := (hd rfl).2 hm; rw [this] at hb; cases hb)⟩
     ·rw [w64 (by omega) (by omega)]; refine ⟨⟨⟨by omega, by omega⟩, fun j hj => ?_⟩, by omega⟩
      by_cases hji : j = k.toNat
      ·subst hji; exact hn
      ·exact hk j (by omega)
    ·have hki := of_decide_eq_false hki
     exact fun j hj => hk j (by omega)
   ·rw [w64 (by omega) (by omega)]; refine ⟨⟨⟨by omega, by omega⟩, fun j hj => ?_⟩, by omega⟩
    by_cases hji : j = i.toNat
    ·subst hji; exact hn
    ·exact hq j (by omega)
  ·have hi := of_decide_eq_false hi
   exact CO (d := ([], (0, []))) (p := fun c => Po g.length c.1) fun j hj => hq j (by omega)
 refine Ad.mid (fun _ => ¬Lz g) ?_ fun d23 k3 => ?_
 ·refine AF.of (fun q => (0 ≤ q.2 ∧ q.2 ≤ g.length) ∧ ∀ c : Int, 0 ≤ c → c < q.2 → ¬∃ p ∈ A8 g c, Rch g p c) (fun q => (g.length - q.2).toNat) ⟨⟨Qa1 _, by dsimp only; omega⟩, fun c h1 h2 => absurd h2 (by dsimp only; omega)⟩ ?_
  rintro ⟨q, i⟩ ⟨⟨i0, i1⟩, hq⟩; dsimp only at i0 i1 hq ⊢; refine ⟨fun hi => ?_, fun hi => ?_⟩
  ·have hi := of_decide_eq_true hi
   have hi2 : i.toNat < g.length := by omega
   refine Ad.mid (fun _ => ¬∃ p ∈ A8 g i, Rch g p i) ⟨⟨i0, hi⟩, hi2, fun hp => ⟨⟨i0, hi⟩, hi2, ?_⟩, fun hp => ⟨fun k => (by cases k), fun _ => ?_⟩⟩ fun _ hn => ?_
   ·refine (hR (g, A8 g i) (by dsimp only; omega) (PF k1 i ⟨i0, hi⟩) (HD k2) (PF k1) (fun f hf => HD k2 i ⟨i0, hi⟩ f hf)).to ?_
    rintro (s : List Bool) _ hsr; have hsr : L0 g (A8 g i) s := hsr; have hsl := hsr.1; refine ⟨⟨i0, by rw [hsl]; exact hi⟩, by rw [hsl]; exact hi2, fun hb => AbD k1 k2 (Aeo ⟨i0, hi⟩ hsr hb), fun hb => Z2 ⟨i0, hi⟩ hsr hb⟩
   ·rintro ⟨p, hm, _⟩; have hp := of_decide_eq_false hp; have hp : ¬(((A8 g i).length : Nat) : Int) > 0 := hp; have := Qh0 hm; omega
   ·rw [w64 (by omega) (by omega)]; refine ⟨⟨⟨by omega, by omega⟩, fun c h1 h2 => ?_⟩, by omega⟩
    by_cases hji : c = i
    ·subst hji; exact hn
    ·exact hq c h1 (by omega)
  ·have hi := of_decide_eq_false hi; rintro ⟨c, hc, hp⟩; exact hq c hc.1 (by have := hc.2; omega) hp
 refine Ad.mid (fun _ => Ob g) ?_ fun d31 k4 => ?_
 ·refine AF.of (fun q => (0 ≤ q.2 ∧ q.2 ≤ g.length) ∧ ∀ j, j < q.2.toNat → 0 ≤ (g.getD j ([], (0, []))).2.1 ∧ (g.getD j ([], (0, []))).2.1 ≤ 2147483647) (fun q => (g.length - q.2).toNat) ⟨⟨Qa1 _, by dsimp only; omega⟩, fun j hj => absurd hj (by simp)⟩ ?_
  rintro ⟨q, i⟩ ⟨⟨i0, i1⟩, hq⟩; dsimp only at i0 i1 hq ⊢; refine ⟨fun hi => ?_, fun hi => ?_⟩
  ·have hi := of_decide_eq_true hi
   have hi2 : i.toNat < g.length := by omega
   refine Ad.mid (fun _ => 0 ≤ (g.getD i.toNat ([], (0, []))).2.1 ∧ (g.getD i.toNat ([], (0, []))).2.1 ≤ 2147483647) ⟨⟨i0, hi⟩, hi2, fun _ => ⟨i0, hi⟩, fun _ => hi2, fun hb => ?_, fun hb => ?_⟩ fun _ hn => ?_
   ·refine AbE k1 k2 k3 fun k => ?_
    have := (PJ _).2 (k _ (Ef hi2)); exact absurd (this.symm.trans hb) (by simp)
   ·exact (PJ _).1 hb
   ·rw [w64 (by omega) (by omega)]; refine ⟨⟨⟨by omega, by omega⟩, fun j hj => ?_⟩, by omega⟩
    by_cases hji : j = i.toNat
    ·subst hji; exact hn
    ·exact hq j (by omega)
  ·have hi := of_decide_eq_false hi
   exact CO (d := ([], (0, []))) (p := fun c => 0 ≤ c.2.1 ∧ c.2.1 ≤ 2147483647) fun j hj => hq j (by omega)
 refine Ad.mid (fun _ => GP g = 0) ?_ fun _ h => Oy k1 k2 k3 k4 h.symm
 refine AF.of (fun q => (0 ≤ q.2 ∧ q.2 ≤ g.length) ∧ GP g = GP (g.drop q.2.toNat)) (fun q => (g.length - q.2).toNat) ⟨⟨Qa1 _, by dsimp only; omega⟩, rfl⟩ ?_
 rintro ⟨q, i⟩ ⟨⟨i0, i1⟩, hq⟩; dsimp only at i0 i1 hq ⊢; refine ⟨fun hi => ?_, fun hi => ?_⟩
 ·have hi := of_decide_eq_true hi
  have hi2 : i.toNat < g.length := by omega
  rw [Rw hi2] at hq
  refine Ad.mid (fun _ => Fm (g.getD i.toNat ([], (0, []))).2.2 = 0) ⟨⟨i0, hi⟩, hi2, (hT _ (hs _ (Ef hi2))).to ?_⟩ fun _ hn => ?_
  ·rintro (d : Int) _ hd; have hd : d = Fm (g.getD i.toNat ([], (0, []))).2.2 := hd; rw [← hd] at hq ⊢; refine ⟨fun hb => Oy k1 k2 k3 k4 ?_, fun hb => by simpa using hb⟩; rw [hq, if_pos (by simpa using hb)]
  ·rw [if_neg (by simpa using hn)] at hq; rw [w64 (by omega) (by omega)]; refine ⟨⟨⟨by omega, by omega⟩, ?_⟩, by omega⟩; rw [hq, show (i + 1).toNat = i.toNat + 1 by omega]
 ·have hi := of_decide_eq_false hi; show GP g = 0; rw [hq, Qe5 (by omega)]; rfl
abbrev AdS : List Bs := [([97] : List UInt8), ([98] : List UInt8), ([99] : List UInt8), ([97, 98] : List UInt8), ([98, 97] : List UInt8), ([] : List UInt8), ([97, 97] : List UInt8), ([98, 32, 97] : List UInt8), ([120, 43, 121] : List UInt8), ([92] : List UInt8)]
def O5 (k : Int) : Bs := AdS.getD (F8 k 10).toNat []
theorem OB (k : Int) : (O5 k).length ≤ 3 := by
 have hr := EE (a := k) (n := 10) (by decide) (by decide); unfold O5; generalize F8 k 10 = m at *
 have : m = 0 ∨ m = 1 ∨ m = 2 ∨ m = 3 ∨ m = 4 ∨ m = 5 ∨ m = 6 ∨ m = 7 ∨ m = 8 ∨ m = 9 := by omega
 rcases this with rfl | rfl | rfl | rfl | rfl | rfl | rfl | rfl | rfl | rfl <;> decide
def MM (P : Pg) : Prop := ∀ k : Int, Fn P Yw DJ k fun (d : Bs) _ => d = O5 k
theorem Ab6 (h : Has P Je) (hM : Jj P) : MM P := by
 intro k; refine Vm h ?_; unfold PX; refine hM.at (by decide) (by decide) ?_; have hr := EE (a := k) (n := 10) (by decide) (by decide); exact ⟨⟨by omega, by simp; omega⟩, by simp; omega, rfl⟩
def GC (raw : List Int) (fr kinds : Int) : Nat → Bs
 | 0 => []
 | k + 1 => (GC raw fr kinds k ++ O5 (F8 (atF raw (fr + 1 + (k : Int))) kinds)) ++ [10]
theorem IQ (raw : List Int) (fr kinds : Int) : ∀ k, (GC raw fr kinds k).length ≤ 4 * k
 | 0 => Qc8 _
 | k + 1 => by
  have h1 := IQ raw fr kinds k; have h2 := OB (F8 (atF raw (fr + 1 + (k : Int))) kinds); rw [GC, Qa7, Qa7]; simp only [Qa2, Qa5]; omega
def Sw (s : Bs) (z : Int) : Bool := cond (cond ((Int.tmod z (4 : Int)) == (0 : Int)) (decide (((Qa6 s : Nat) : Int) > (1 : Int))) false) (((UInt8.toNat (Qg6 s (Qb9 (IntKind.i64.wrap (((Qa6 s : Nat) : Int) - (2 : Int)))) 0) : Nat) : Int) != (10 : Int)) false
def MW (raw : List Int) (fr mx kinds : Int) : Bs :=
 if Sw (GC raw fr kinds (F8 (atF raw fr) (mx + 1)).toNat) (atF raw (fr + 90)) = true then (GC raw fr kinds (F8 (atF raw fr) (mx + 1)).toNat).take ((GC raw fr kinds (F8 (atF raw fr) (mx + 1)).toNat).length - 1) else GC raw fr kinds (F8 (atF raw fr) (mx + 1)).toNat
theorem ZA {raw : List Int} {fr mx kinds : Int} (h0 : 0 ≤ mx) (h1 : mx ≤ 100) : (MW raw fr mx kinds).length ≤ 400 := by
 have hr := EE (a := atF raw fr) (n := mx + 1) (by omega) (by omega); have h2 := IQ raw fr kinds (F8 (atF raw fr) (mx + 1)).toNat; unfold MW; split
 ·rw [Qa9]; omega
 ·omega
def PQ (P : Pg) : Prop := ∀ x : List Int × (Int × (Int × Int)), (0 ≤ x.2.1 ∧ x.2.1 ≤ 1000000) → (0 ≤ x.2.2.1 ∧ x.2.2.1 ≤ 100) → (1 ≤ x.2.2.2 ∧ x.2.2.2 ≤ 100000) → Fn P zS9 Dk x fun (d : Bs) _ => d = MW x.1 x.2.1 x.2.2.1 x.2.2.2
theorem Ab2 (h : Has P Jc) (hA : LC P) (hM : Jj P) (hL : MM P) : PQ P := by
 rintro ⟨raw, fr, mx, kinds⟩ ⟨f0, f1⟩ ⟨m0, m1⟩ ⟨k0, k1⟩; dsimp only at f0 f1 m0 m1 k0 k1; refine Vk h ?_; unfold PV; dsimp only; rw [w64 (n := mx + 1) (by omega) (by omega), w64 (n := fr + 1) (by omega) (by omega), w64 (n := fr + 90) (by omega) (by omega)]; refine hA.at f0 (hM.at (by omega) (by omega) ?_); unfold MW; have hr := EE (a := atF raw fr) (n := mx + 1) (by omega) (by omega)
 generalize F8 (atF raw fr) (mx + 1) = m at hr ⊢
 refine Ad.mid (fun d => d = GC raw fr kinds m.toNat) ?_ fun d hd => ?_
 ·refine AF.of (fun q => (0 ≤ q.2 ∧ q.2 ≤ m) ∧ q.1 = GC raw fr kinds q.2.toNat) (fun q => (m - q.2).toNat) ⟨⟨Qa1 _, hr.1⟩, rfl⟩ ?_; rintro ⟨s, i⟩ ⟨⟨i0, i1⟩, hs⟩; dsimp only at i0 i1 hs ⊢; have hsl := IQ raw fr kinds i.toNat; rw [← hs] at hsl; refine ⟨fun hi => ?_, fun hi => by have hi := of_decide_eq_false hi; rw [hs, show i = m by omega]⟩
  have hi := of_decide_eq_true hi
  have hnx : GC raw fr kinds (i.toNat + 1) = (s ++ O5 (F8 (atF raw (fr + 1 + i)) kinds)) ++ [10] := by
   rw [GC, ← hs, show ((i.toNat : Nat) : Int) = i by omega]
  have hll := OB (F8 (atF raw (fr + 1 + i)) kinds)
  refine Ad.mid (fun d => d = GC raw fr kinds (i.toNat + 1)) ?_ fun d hd => ?_
  ·rw [w64 (by omega) (by omega)]; refine hA.at (by omega) (hM.at k0 (by omega) ((hL _).to ?_)); rintro (ln : Bs) _ hln; have hln : ln = _ := hln; subst hln; refine ⟨by omega, by rw [Qa7]; simp only [Qa2, Qa5]; omega, hnx.symm⟩
  ·rw [w64 (by omega) (by omega)]; exact ⟨⟨⟨by omega, by omega⟩, by rw [hd, show (i + 1).toNat = i.toNat + 1 by omega]⟩, by omega⟩
 ·subst hd; have hbl := IQ raw fr kinds m.toNat; generalize GC raw fr kinds m.toNat = d at hbl ⊢; refine hA.at (by omega) ⟨by decide, fun hc => ?_, ?_⟩
  ·rw [Qb5] at hc; split at hc
   ·have h1 := of_decide_eq_true hc; rw [w64 (by omega) (by omega)]; omega
   ·cases hc
  ·refine Ad.mid (fun e => e = if Sw d (atF raw (fr + 90)) = true then d.take (d.length - 1) else d) ⟨fun hc => ?_, fun hc => ?_⟩ fun _ h => h
   ·have h1 : 1 < d.length := by
     rw [Qb5] at hc; split at hc
     ·rename_i h2; rw [Qb5] at h2; split at h2
      ·have := of_decide_eq_true h2; omega
      ·cases h2
     ·cases hc
    rw [w64 (by omega) (by omega)]; refine ⟨⟨by omega, by omega⟩, ?_⟩
    have hc : Sw d (atF raw (fr + 90)) = true := by unfold Sw; exact hc
    rw [if_pos hc, show (((d.length : Nat) : Int) - 1).toNat = d.length - 1 by omega]
   ·have hc : Sw d (atF raw (fr + 90)) = false := by unfold Sw; exact hc
    rw [if_neg (by rw [hc]; exact Bool.false_ne_true)]
theorem PG : ∀ (s acc : Bs), (lnN acc s).length ≤ s.length
 | [], acc => by rw [lnN]; exact Qc8 _
 | b :: r, acc => by
  rw [lnN]; split
  ·have := PG r []; simp only [Qa2]; omega
  ·have := PG r (acc ++ [b]); simp only [Qa2]; omega
theorem Xu {s : Bs} (h : s.length ≤ 4000) : GK s = 0 := by
 have h1 : (lnF s).length ≤ s.length := PG s []; unfold GK; rw [if_neg (by omega)]
abbrev Ep : List Bs := [([97] : List UInt8), ([98, 47, 120] : List UInt8), ([98, 47, 121] : List UInt8), ([99, 32, 100] : List UInt8)]
def ZG (raw : List Int) (fr lines : Int) (i : Nat) : Option Bh := if atF raw (fr + (i : Int)) % 3 > 0 then some (Ep.getD i [], MW raw (fr + 10 + 20 * (i : Int)) lines 4) else none
def Ph (raw : List Int) (fr lines : Int) (k : Nat) : List Bh := (Qe1 k).filterMap (ZG raw fr lines)
def Hu (raw : List Int) (fr lines : Int) : List Bh := Ph raw fr lines 4
theorem ZH (raw : List Int) (fr lines : Int) (k : Nat) : Ph raw fr lines (k + 1) = Ph raw fr lines k ++ (ZG raw fr lines k).toList := by
 unfold Ph; rw [List.range_succ, List.filterMap_append]
 cases h : ZG raw fr lines k with
 | none => simp [h]
 | some v => simp [h]
def AdY (l : List Bh) : Prop := ∃ q : Nat → Option Bs, (∀ i v, q i = some v → v.length ≤ 4000) ∧ l = (Qe1 4).filterMap fun i => (q i).map fun v => (Ep.getD i [], v)
theorem Vf {raw : List Int} {fr lines : Int} (h0 : 0 ≤ lines) (h1 : lines ≤ 100) : AdY (Hu raw fr lines) := by
 refine ⟨fun i => if atF raw (fr + (i : Int)) % 3 > 0 then some (MW raw (fr + 10 + 20 * (i : Int)) lines 4) else none, fun i v hv => ?_, ?_⟩
 ·dsimp only at hv; split at hv
  ·cases hv; have := ZA (raw := raw) (fr := fr + 10 + 20 * (i : Int)) (kinds := 4) h0 h1; omega
  ·cases hv
 ·unfold Hu Ph
  congr 1
  funext i
  unfold ZG; dsimp only
  split <;> rfl
theorem WT {l : List Bh} (h : AdY l) : ∃ a b c d : Option Bs, (∀ v, a = some v ∨ b = some v ∨ c = some v ∨ d = some v → v.length ≤ 4000) ∧ l = (a.map fun v => (Ep.getD 0 [], v)).toList ++ ((b.map fun v => (Ep.getD 1 [], v)).toList ++ ((c.map fun v => (Ep.getD 2 [], v)).toList ++ (d.map fun v => (Ep.getD 3 [], v)).toList)) := by
 obtain ⟨q, hq, rfl⟩ := h; refine ⟨q 0, q 1, q 2, q 3, fun v hv => ?_, ?_⟩
 ·rcases hv with h | h | h | h
  ·exact hq _ _ h
  ·exact hq _ _ h
  ·exact hq _ _ h
  ·exact hq _ _ h
 ·show (Qe1 4).filterMap _ = _; rw [show Qe1 4 = [0, 1, 2, 3] from rfl]
  cases h0 : q 0 <;> cases h1 : q 1 <;> cases h2 : q 2 <;> cases h3 : q 3 <;> simp [h0, h1, h2, h3, List.filterMap]
def IL (P : Pg) : Prop := ∀ x : List Int × (Int × Int), (0 ≤ x.2.1 ∧ x.2.1 ≤ 100000) → (0 ≤ x.2.2 ∧ x.2.2 ≤ 100) → Fn P WY CJ x fun (d : List Bh) _ => d = Hu x.1 x.2.1 x.2.2
theorem Ab4 (h : Has P HX) (hA : LC P) (hB : PQ P) : IL P := by
 rintro ⟨raw, fr, lines⟩ ⟨f0, f1⟩ ⟨l0, l1⟩; dsimp only at f0 f1 l0 l1; refine TQ h ?_; unfold OR; dsimp only
 refine Ad.mid (fun d => d = Hu raw fr lines) ?_ fun _ h => h
 have hlen4 : (Ep : List Bs).length = 4 := rfl; unfold Hu
 have hsl : ∀ k, (Ph raw fr lines k).length ≤ k := fun k => by unfold Ph; exact Qc0 (List.length_filterMap_le ..) (by rw [List.length_range]; exact Qc8 _)
 refine AF.of (fun q => (0 ≤ q.2 ∧ q.2 ≤ 4) ∧ q.1 = Ph raw fr lines q.2.toNat) (fun q => (4 - q.2).toNat) ⟨⟨Qa1 _, by decide⟩, rfl⟩ ?_; rintro ⟨o, i⟩ ⟨⟨i0, i1⟩, ho⟩; dsimp only at i0 i1 ho ⊢; refine ⟨fun hi => ?_, fun hi => by have hi := of_decide_eq_false hi; rw [ho, show i = 4 by omega]; rfl⟩
 have hi := of_decide_eq_true hi; have hnx := ZH raw fr lines i.toNat; have hol := hsl i.toNat; rw [← ho] at hnx hol; unfold ZG at hnx; rw [show ((i.toNat : Nat) : Int) = i by omega] at hnx; have hr := Zq raw (fr + i)
 have hi4 : i < ((Qa6 (Ep : List Bs) : Nat) : Int) := by rw [hlen4]; omega
 have hi5 : i.toNat < Qa6 (Ep : List Bs) := by rw [hlen4]; omega
 have hsz : ∀ v : Bs, (o.length + ([(Ep.getD i.toNat [], v)] : List Bh).length) * 32 ≤ 140737488355328 := fun v => by
  simp only [Qa2, Qa5]; omega
 refine Ad.mid (fun d => d = Ph raw fr lines (i.toNat + 1)) ?_ fun d hd => ?_
 ·rw [w64 (n := fr + i) (by omega) (by omega), w64 (n := fr + 10) (by omega) (by omega), w64 (n := 20 * i) (by omega) (by omega), w64 (n := fr + 10 + 20 * i) (by omega) (by omega)]; refine hA.at (by omega) ⟨by decide, ?_⟩; rw [Qd6 hr.1]
  refine Ad.mid (fun d => d = Ph raw fr lines (i.toNat + 1)) ⟨fun hc => ?_, fun hc => ?_⟩ fun _ h => h
  ·have hc := of_decide_eq_true hc; rw [if_pos hc] at hnx
   have hbl : ∀ {K : Bs → Unit → Prop}, K (MW raw (fr + 10 + 20 * i) lines 4) () → Fn P zS9 Dk (raw, (fr + 10 + 20 * i, (lines, (4 : Int)))) K := fun {K} hk => (hB (raw, (fr + 10 + 20 * i, (lines, (4 : Int)))) ⟨by dsimp only; omega, by dsimp only; omega⟩ ⟨l0, l1⟩ ⟨(by decide : (1 : Int) ≤ 4), (by decide : (4 : Int) ≤ 100000)⟩).to fun (d : Bs) _ hd => by
    have hd : d = _ := hd; subst hd; exact hk
   refine Ad.mid (fun d => d = Ph raw fr lines (i.toNat + 1)) (by repeat' (first | exact trivial | exact i0 | exact hi4 | exact hi5 | exact hsz _ | exact hnx.symm | apply And.intro | (refine hbl ?_))) fun _ h => h
  ·have hc := of_decide_eq_false hc; rw [if_neg hc] at hnx; rw [hnx]; exact (Qd8 o).symm
 ·subst hd; rw [w64 (by omega) (by omega)]; exact ⟨⟨⟨by omega, by omega⟩, by rw [show (i + 1).toNat = i.toNat + 1 by omega]⟩, by omega⟩
theorem IL.at (h : IL P) {raw : List Int} {fr lines : Int} (f0 : 0 ≤ fr) (f1 : fr ≤ 100000) (l0 : 0 ≤ lines) (l1 : lines ≤ 100) {K : List Bh → Unit → Prop} (hk : K (Hu raw fr lines) ()) : Fn P WY CJ (raw, (fr, lines)) K :=
 (h (raw, (fr, lines)) ⟨f0, f1⟩ ⟨l0, l1⟩).to fun (d : List Bh) _ hd => by
  have hd : d = Hu raw fr lines := hd; subst hd; exact hk
theorem XR {g : List Ai} (h : Dt g 0) : Il g ∧ G7 g ∧ ¬Lz g ∧ Ob g ∧ GP g = 0 := by
 have k1 : Il g := Classical.byContradiction fun k => by have := h.1 k; omega
 have k2 : G7 g := Classical.byContradiction fun k => by have := h.2.1 k1 k; omega
 have k3 : ¬Lz g := fun k => by have := h.2.2.1 k1 k2 k; omega
 have k4 : Ob g := Classical.byContradiction fun k => by have := h.2.2.2.1 k1 k2 k3 k; omega
 exact ⟨k1, k2, k3, k4, (h.2.2.2.2 k1 k2 k3 k4).symm⟩
theorem Aet (g : List Ai) (c : Int) : (cond (decide (c ≥ (0 : Int))) (decide (c < ((Qa6 g : Nat) : Int))) false) = true ↔ inR g c := by
 unfold inR; rw [Qb5]
 by_cases h : c ≥ 0
 ·rw [if_pos (decide_eq_true h)]; exact ⟨fun k => ⟨h, of_decide_eq_true k⟩, fun k => decide_eq_true k.2⟩
 ·rw [if_neg (by simpa using h)]; exact ⟨fun k => (by cases k), fun k => absurd k.1 h⟩
theorem FQ {α : Type} {l : List α} {k : Nat} {d : α} (h : k < l.length) : l.take (k + 1) = l.take k ++ [l.getD k d] := by
 rw [Qd4, Qa0, Qa4 h]; rfl
theorem Aff {α : Type} {q r : List α} {k : Nat} {d : α} (h : k < q.length) : (q ++ r).getD k d = q.getD k d := by
 rw [Qa0, Qf9 h, ← Qa0]
theorem Afg {α : Type} {q : List α} {v d : α} : (q ++ [v]).getD q.length d = v := by
 rw [Qa0, List.getElem?_append_right (Qc8 _), Nat.sub_self]; rfl
def Cov (g : List Ai) (l : List Int) (x : Int) : Prop := ∃ f ∈ l, f ≠ x ∧ Rch g f x
def FV (g : List Ai) (l d : List Int) : Prop := ∃ b : Int → Bool, (∀ x ∈ l, (b x = true ↔ ¬Cov g l x)) ∧ d = l.filter b
theorem Mi {g : List Ai} {l d e : List Int} (h : FV g l d) (k : FV g l e) : d = e := by
 obtain ⟨b, hb, rfl⟩ := h; obtain ⟨c, hc, rfl⟩ := k
 refine Qf8 fun x hx => ?_
 have := (hb x hx).trans (hc x hx).symm
 cases h1 : b x <;> cases h2 : c x <;> simp_all
theorem WJ : ∀ {l m : List Int}, (l.Pairwise fun x y => x < y) → (m.Pairwise fun x y => x < y) → (∀ t, t ∈ l ↔ t ∈ m) → l = m
 | [], [], _, _, _ => rfl
 | [], b :: m, _, _, h => nomatch (h b).2 (Qb0 ..)
 | a :: l, [], _, _, h => nomatch (h a).1 (Qb0 ..)
 | a :: l, b :: m, hl, hm, h => by
  have hl2 := List.pairwise_cons.1 hl; have hm2 := List.pairwise_cons.1 hm
  have e : a = b := by
   rcases List.mem_cons.1 ((h a).1 (Qb0 ..)) with e | h1
   ·exact e
   ·rcases List.mem_cons.1 ((h b).2 (Qb0 ..)) with e | h2
    ·exact e.symm
    ·have := hm2.1 a h1; have := hl2.1 b h2; omega
  subst e; rw [WJ hl2.2 hm2.2 fun t => ⟨fun ht => ?_, fun ht => ?_⟩]
  ·rcases List.mem_cons.1 ((h t).1 (Qb3 _ ht)) with e | h1
   ·have := hl2.1 t ht; omega
   ·exact h1
  ·rcases List.mem_cons.1 ((h t).2 (Qb3 _ ht)) with e | h1
   ·have := hm2.1 t ht; omega
   ·exact h1
def Ew (g : List Ai) (p : Int → Prop) (d : List Int) : Prop := ∃ b : Int → Bool, (∀ x, inR g x → (b x = true ↔ p x)) ∧ d = (rng g.length).filter b
theorem Jv {g : List Ai} {p q : Int → Prop} {d e : List Int} (h : Ew g p d) (k : Ew g q e) (hpq : ∀ x, inR g x → (p x ↔ q x)) : d = e := by
 obtain ⟨b, hb, rfl⟩ := h; obtain ⟨c, hc, rfl⟩ := k
 refine Qf8 fun x hx => ?_
 have hx : inR g x := D4.1 hx; have := ((hb x hx).trans (hpq x hx)).trans (hc x hx).symm
 cases h1 : b x <;> cases h2 : c x <;> simp_all
theorem Ew.mem {g : List Ai} {p : Int → Prop} {d : List Int} (h : Ew g p d) {x : Int} : x ∈ d ↔ inR g x ∧ p x := by
 obtain ⟨b, hb, rfl⟩ := h; rw [Qf1, D4]; exact ⟨fun k => ⟨k.1, (hb x k.1).1 k.2⟩, fun k => ⟨k.1, (hb x k.1).2 k.2⟩⟩
theorem Zf (n : Nat) : (rng n).Pairwise fun x y => x < y := by
 unfold rng; rw [Qe3]
 exact (List.pairwise_lt_range).imp fun h => by omega
theorem Ew.srt {g : List Ai} {p : Int → Prop} {d : List Int} (h : Ew g p d) : d.Pairwise fun x y => x < y := by
 obtain ⟨b, _, rfl⟩ := h; exact (Zf _).sublist Qf4
theorem Ew.len {g : List Ai} {p : Int → Prop} {d : List Int} (h : Ew g p d) : d.length ≤ g.length := by
 obtain ⟨b, _, rfl⟩ := h; exact Qc0 (Qc4 _ _) (by rw [FM]; exact Qc8 _)
theorem QE {g : List Ai} {p : Int → Prop} {d : List Int} (hs : d.Pairwise fun x y => x < y) (hm : ∀ x, x ∈ d ↔ inR g x ∧ p x) : Ew g p d := by
 refine ⟨fun x => decide (x ∈ d), fun x hx => ?_, ?_⟩
 ·rw [decide_eq_true_eq, hm]; exact ⟨fun h => h.2, fun h => ⟨hx, h⟩⟩
 ·refine WJ hs ((Zf _).sublist Qf4) fun x => ?_
  rw [Qf1, D4, decide_eq_true_eq]; exact ⟨fun h => ⟨((hm x).1 h).1, h⟩, fun h => h.2⟩
theorem FV.sub {g : List Ai} {l d : List Int} (h : FV g l d) : d.Sublist l := by
 obtain ⟨b, _, rfl⟩ := h; exact Qf4
theorem FV.mem {g : List Ai} {l d : List Int} (h : FV g l d) {x : Int} : x ∈ d ↔ x ∈ l ∧ ¬Cov g l x := by
 obtain ⟨b, hb, rfl⟩ := h; rw [Qf1]; exact ⟨fun k => ⟨k.1, (hb x k.1).1 k.2⟩, fun k => ⟨k.1, (hb x k.1).2 k.2⟩⟩
def JP {α : Type} (g : List Ai) (ok : Prop) (z : α) (good : α → Prop) (d : α × Int) : Prop := ∃ e, Dt g e ∧ (e ≠ 0 → d = (z, e)) ∧ (e = 0 → ¬ok → d = (z, 5)) ∧ (e = 0 → ok → good d.1 ∧ d.2 = 0)
theorem Jm {α : Type} {g : List Ai} {ok ok' : Prop} {z : α} {good good' : α → Prop} {d e : α × Int} (hok : ok ↔ ok') (hg : Dt g 0 → ok → ∀ a b, good a → good' b → a = b) (hd : JP g ok z good d) (he : JP g ok' z good' e) : d = e := by
 obtain ⟨k, h1, h2, h3, h4⟩ := hd; obtain ⟨k', h1', h2', h3', h4'⟩ := he; have := Ju h1' h1; subst this
 by_cases hk : k' = 0
 ·by_cases hc : ok
  ·have a := h4 hk hc; have b := h4' hk (hok.1 hc); subst hk; exact Prod.ext (hg h1 hc _ _ a.1 b.1) (a.2.trans b.2.symm)
  ·rw [h3 hk hc, h3' hk fun k => hc (hok.2 k)]
 ·rw [h2 hk, h2' hk]
def LZ (g : List Ai) (c : Int) (d : List Int × Int) : Prop := JP g (inR g c) [] (Ew g (Rch g c)) d
def Zn (g : List Ai) (a c : Int) (d : Bool × Int) : Prop := JP g (inR g a ∧ inR g c) false (fun b => b = true ↔ Rch g c a) d
def E9 (g : List Ai) (a b : Int) (d : List Int × Int) : Prop := JP g (inR g a ∧ inR g b) [] (fun d => ∃ L, Ew g (fun x => Rch g a x ∧ Rch g b x) L ∧ FV g L d) d
def JR (g : List Ai) (l : List Int) (d : List Int × Int) : Prop := JP g (∀ x ∈ l, inR g x) [] (fun d => ∃ L, Ew g (fun x => x ∈ l) L ∧ FV g L d) d
theorem UO {g : List Ai} {c : Int} {d e : List Int × Int} (hd : LZ g c d) (he : LZ g c e) : d = e := by
 unfold LZ at hd he; refine Jm Iff.rfl ?_ hd he
 exact fun _ _ a b ha hb => Jv ha hb fun _ _ => Iff.rfl
theorem ZP {g : List Ai} {a c : Int} {d e : Bool × Int} (hd : Zn g a c d) (he : Zn g a c e) : d = e := by
 unfold Zn at hd he; refine Jm Iff.rfl (fun _ _ x y hx hy => ?_) hd he; have := hx.trans hy.symm
 cases x <;> cases y <;> simp_all
theorem WV {g : List Ai} {p q : Int → Prop} (h : ∀ x, p x ↔ q x) {d e : List Int} (hx : ∃ L, Ew g p L ∧ FV g L d) (hy : ∃ L, Ew g q L ∧ FV g L e) : d = e := by
 obtain ⟨L, hL, hx⟩ := hx; obtain ⟨M, hM, hy⟩ := hy
 have := Jv hL hM fun x _ => h x
 subst this; exact Mi hx hy
theorem TH {g : List Ai} {a b : Int} {d e : List Int × Int} (hd : E9 g a b d) (he : E9 g a b e) : d = e := by
 unfold E9 at hd he; refine Jm Iff.rfl ?_ hd he
 exact fun _ _ x y hx hy => WV (fun _ => Iff.rfl) hx hy
theorem XO {g : List Ai} {l : List Int} {d e : List Int × Int} (hd : JR g l d) (he : JR g l e) : d = e := by
 unfold JR at hd he; refine Jm Iff.rfl ?_ hd he
 exact fun _ _ x y hx hy => WV (fun _ => Iff.rfl) hx hy
theorem OC : ∀ (s acc : Bs), s ≠ [] → (lnN acc s).flatten = acc ++ s
 | [], _, h => absurd rfl h
 | b :: r, acc, _ => by
  rw [lnN]; split
  ·by_cases hr : r = []
   ·subst hr; simp [lnN]
   ·rw [List.flatten_cons, OC r [] hr]; simp
  ·rename_i h
   have hr : r ≠ [] := fun e => h (Or.inr e)
   rw [OC r (acc ++ [b]) hr]; simp
theorem ZW (s : Bs) : (lnF s).flatten = s := by
 by_cases h : s = []
 ·subst h; rfl
 ·exact OC s [] h
theorem VN (k : Int) : (O5 k).count 10 = 0 := by
 have hr := EE (a := k) (n := 10) (by decide) (by decide); unfold O5; generalize F8 k 10 = m at *
 have : m = 0 ∨ m = 1 ∨ m = 2 ∨ m = 3 ∨ m = 4 ∨ m = 5 ∨ m = 6 ∨ m = 7 ∨ m = 8 ∨ m = 9 := by omega
 rcases this with rfl | rfl | rfl | rfl | rfl | rfl | rfl | rfl | rfl | rfl <;> decide
def PU (P : Pg) : Prop := ∀ x : Bs × (List Int × Int), x.1.length ≤ 4000 → (0 ≤ x.2.2 ∧ x.2.2 ≤ 1000000) → Fn P Aci Ex x fun (d : Bs) _ => d.length ≤ x.1.length + 4 * (x.1.count 10 + 1) ∧ d.count 10 ≤ 2 * x.1.count 10 + 1
theorem Ab7 (h : Has P Jf) (hA : LC P) (hL : MM P) (hN : Ji P) : PU P := by
 rintro ⟨s, raw, fr⟩ hs ⟨f0, f1⟩; dsimp only at hs f0 f1; refine Vn h ?_; unfold PY; dsimp only; refine (hN s (by omega)).to ?_; rintro (l : List Bs) _ hl; have hl : l = lnF s := hl
 have hlen : l.length ≤ s.count 10 + 1 := by
  have := Y1 s; rw [hl]
  split at this <;> omega
 have hlen2 : l.length ≤ s.length := by rw [hl]; exact PG s []
 have hfl : l.flatten = s := by rw [hl]; exact ZW s
 clear hl
 have hpre : ∀ k, k < l.length → (l.take (k + 1)).flatten = (l.take k).flatten ++ l.getD k [] := fun k hk => by
  rw [Qd4, Qa4 hk, List.flatten_append, Qa0, Qa4 hk]; simp
 have hle : ∀ k, (l.take k).flatten.length ≤ s.length ∧ (l.take k).flatten.count 10 ≤ s.count 10 := fun k => by
  have : l.flatten = (l.take k).flatten ++ (l.drop k).flatten := by rw [← List.flatten_append, Qh3]
  rw [hfl] at this; have h1 := congrArg Qa6 this; have h2 := congrArg (List.count (10 : UInt8)) this; rw [Qa7] at h1; rw [Qb8] at h2; omega
 rw [w64 (n := fr + 40) (by omega) (by omega)]
 refine Ad.mid (fun d => d.length ≤ s.length + 4 * (s.count 10 + 1) ∧ d.count 10 ≤ 2 * s.count 10 + 1) ?_ fun _ h => h
 refine AF.of (fun q => (0 ≤ q.2 ∧ q.2 ≤ l.length) ∧ (q.1.length : Int) ≤ 4 * q.2 + ((l.take q.2.toNat).flatten.length : Nat) ∧ (q.1.count 10 : Int) ≤ q.2 + ((l.take q.2.toNat).flatten.count 10 : Nat)) (fun q => (l.length - q.2).toNat) ⟨⟨Qa1 _, Qa3 _⟩, by simp, by simp⟩ ?_; rintro ⟨d, i⟩ ⟨⟨i0, i1⟩, hd, hc⟩; dsimp only at i0 i1 hd hc ⊢; have hti := hle i.toNat
 refine ⟨fun hi => ?_, fun hi => by have hi := of_decide_eq_false hi; omega⟩
 have hi := of_decide_eq_true hi
 have hi2 : i.toNat < l.length := by omega
 have hp := congrArg Qa6 (hpre i.toNat hi2); have hp2 := congrArg (List.count (10 : UInt8)) (hpre i.toNat hi2); rw [Qa7] at hp; rw [Qb8] at hp2; have htj := hle (i.toNat + 1)
 refine Ad.mid (fun d => (d.length : Int) ≤ 4 * (i + 1) + ((l.take (i.toNat + 1)).flatten.length : Nat) ∧ (d.count 10 : Int) ≤ i + 1 + ((l.take (i.toNat + 1)).flatten.count 10 : Nat)) ?_ fun d hd => ?_
 ·rw [w64 (n := fr + i) (by omega) (by omega), w64 (n := fr + 40 + i) (by omega) (by omega)]; refine hA.at (by omega) ⟨by decide, ?_⟩
  refine Ad.mid (fun e => (e.length : Int) ≤ 4 * i + ((l.take i.toNat).flatten.length : Nat) + 4 ∧ (e.count 10 : Int) ≤ i + ((l.take i.toNat).flatten.count 10 : Nat) + 1) ⟨fun _ => by omega, fun _ => ?_⟩ fun e he => ?_
  ·refine Ad.mid (fun e => (e.length : Int) ≤ 4 * i + ((l.take i.toNat).flatten.length : Nat) + 4 ∧ (e.count 10 : Int) ≤ i + ((l.take i.toNat).flatten.count 10 : Nat) + 1) ⟨fun _ => ?_, fun _ => by omega⟩ fun _ h => h
   refine hA.at (by omega) ((hL _).to ?_); rintro (ln : Bs) _ hln; have hln : ln = O5 _ := hln; have hl1 := OB (atF raw (fr + 40 + i)); have hl2 := VN (atF raw (fr + 40 + i)); rw [← hln] at hl1 hl2; refine ⟨by omega, by rw [Qa7]; simp only [Qa2, Qa5]; omega, ?_⟩
   try dsimp only
   rw [Qa7, Qa7, Qb8, Qb8, hl2]; simp only [Qa2, Qa5, List.count_singleton_self]; omega
  ·refine ⟨⟨i0, hi⟩, hi2, by omega, ?_⟩
   try dsimp only
   rw [Qa7, Qb8]; omega
 ·rw [w64 (by omega) (by omega), show (i + 1).toNat = i.toNat + 1 by omega]; exact ⟨⟨⟨by omega, by omega⟩, hd.1, hd.2⟩, by omega⟩
def P7 (B : Nat) (v : Bs) : Prop := v.count 10 + 1 ≤ B ∧ v.length + 4 ≤ 4 * B
def Hm (B : Nat) (l : List Bh) : Prop := (l.map (·.1)).Sublist Ep ∧ ∀ f ∈ l, P7 B f.2
theorem Hm.mono {B C : Nat} {l : List Bh} (h : Hm B l) (hB : B ≤ C) : Hm C l := ⟨h.1, fun f hf => by have := h.2 f hf; unfold P7 at *; omega⟩
theorem XV : ∀ p ∈ Ep, CD p = 0 := by decide
theorem Z0 : Ep.Pairwise fun p q => Op.bytesLess p q = true ∧ FZ p q = false := by decide
theorem MF {B : Nat} {l : List Bh} (h : Hm B l) : l.length ≤ 4 := by
 have := h.1.length_le; rw [Qd9] at this; exact this
theorem Aau {B : Nat} {l : List Bh} (h : Hm B l) (hB : B ≤ 1000) : Fm l = 0 := by
 have hl := MF h
 have hp : l.all (fun f => CD f.1 == 0) = true := by
  rw [Qe8]; intro f hf; rw [XV f.1 (h.1.subset (List.mem_map.2 ⟨f, hf, rfl⟩))]; rfl
 have ho : QT l = true := by
  rw [QU]; have hpw := Z0.sublist h.1; rw [Qe3, Qc7] at hpw; intro i hi k hk; have := hpw k i (by omega) hi hk; unfold pth; rw [Qa0, Qa0, Qa4 hi, Qa4 (Nat.lt_trans hk hi)]; exact this
 have hc : l.all (fun f => GK f.2 == 0) = true := by
  rw [Qe8]; intro f hf; have := (h.2 f hf).2; rw [Xu (by omega)]; rfl
 unfold Fm; rw [if_neg (by omega), if_neg (by rw [hp]; simp), if_neg (by rw [ho]; simp), if_neg (by rw [hc]; simp)]
theorem ZZ : ∀ p ∈ Ep, p.length ≤ 3 := by decide
theorem Ace {B : Nat} {l : List Bh} (h : Hm B l) (hB : B ≤ 1000) : Kw l := ⟨by have := MF h; omega, fun f hf => by
 have h1 := ZZ f.1 (h.1.subset (List.mem_map.2 ⟨f, hf, rfl⟩)); have h2 := (h.2 f hf).2
 omega⟩
theorem UY (raw : List Int) (fr kinds : Int) : ∀ k, (GC raw fr kinds k).count 10 = k
 | 0 => rfl
 | k + 1 => by
  rw [GC, Qb8, Qb8, UY raw fr kinds k, VN]; rfl
theorem AcQ {raw : List Int} {fr mx kinds : Int} (h0 : 0 ≤ mx) (h1 : mx ≤ 100) : P7 (mx.toNat + 1) (MW raw fr mx kinds) := by
 have hr := EE (a := atF raw fr) (n := mx + 1) (by omega) (by omega); have h2 := IQ raw fr kinds (F8 (atF raw fr) (mx + 1)).toNat; have h3 := UY raw fr kinds (F8 (atF raw fr) (mx + 1)).toNat; unfold MW P7; split
 ·have h4 := (List.take_sublist ((GC raw fr kinds (F8 (atF raw fr) (mx + 1)).toNat).length - 1) (GC raw fr kinds (F8 (atF raw fr) (mx + 1)).toNat)).count_le (10 : UInt8); rw [Qa9]; omega
 ·omega
theorem PI (p : Bs) (o : Option Bs) : (((o.map fun v => (p, v)).toList).map (·.1)).Sublist [p] := by cases o <;> simp
theorem Ve {raw : List Int} {fr lines : Int} (h0 : 0 ≤ lines) (h1 : lines ≤ 100) : Hm (lines.toNat + 1) (Hu raw fr lines) := by
 refine ⟨?_, fun f hf => ?_⟩
 ·obtain ⟨a, b, c, d, _, hl⟩ := WT (Vf (raw := raw) (fr := fr) h0 h1); rw [hl, Qc3, Qc3, Qc3]; exact (PI (Ep.getD 0 []) a).append ((PI (Ep.getD 1 []) b).append ((PI (Ep.getD 2 []) c).append (PI (Ep.getD 3 []) d)))
 ·unfold Hu Ph at hf; obtain ⟨i, _, hi⟩ := List.mem_filterMap.1 hf; unfold ZG at hi; split at hi
  ·have := Qi2 hi; rw [← this]; exact AcQ h0 h1
  ·cases hi
theorem VR {l : List Bh} {i : Nat} (h : i < l.length) : (l.take (i + 1)).map (·.1) = (l.take i).map (·.1) ++ [(l.getD i ([], [])).1] := by
 rw [FQ (d := ([], [])) h, Qc3]; rfl
def UL (B : Nat) (l : List Bh) (i : Nat) (d : List Bh) : Prop := (d.map (·.1)).Sublist ((l.take i).map (·.1)) ∧ ∀ f ∈ d, P7 B f.2
theorem ZC {B : Nat} {l d : List Bh} {i : Nat} (h : UL B l i d) (hi : i < l.length) : UL B l (i + 1) d := ⟨by rw [VR hi]; exact h.1.trans (List.sublist_append_left _ _), h.2⟩
theorem Aa5 {B : Nat} {l d : List Bh} {i : Nat} {v : Bs} (h : UL B l i d) (hi : i < l.length) (hv : P7 B v) : UL B l (i + 1) (d ++ [((l.getD i ([], [])).1, v)]) := by
 refine ⟨?_, fun f hf => ?_⟩
 ·rw [VR hi, Qc3]; exact h.1.append (List.Sublist.refl _)
 ·rcases List.mem_append.1 hf with hf | hf
  ·exact h.2 f hf
  ·rw [List.mem_singleton.1 hf]; exact hv
theorem Aa6 {B : Nat} {l d : List Bh} {i : Nat} (h : UL B l i d) (hl : l.length ≤ 4) : d.length ≤ 4 := by
 have := h.1.length_le; rw [Qd9, Qd9, Qa9] at this; omega
def NW (P : Pg) : Prop := ∀ (B : Nat) (x : List Bh × (List Int × (Int × Int))), Hm B x.1 → x.2.2.2.toNat + 1 ≤ B → B ≤ 900 → (0 ≤ x.2.2.1 ∧ x.2.2.1 ≤ 90000) → (0 ≤ x.2.2.2 ∧ x.2.2.2 ≤ 100) → Fn P Acj DA x fun (d : List Bh) _ => Hm (2 * B) d
theorem Aah (h : Has P GS) (hA : LC P) (hM : Jj P) (hN : PU P) (hF : IL P) : NW P := by
 rintro B ⟨l, raw, fr, lines⟩ hl hB hB2 ⟨f0, f1⟩ ⟨l0, l1⟩; dsimp only at hl hB f0 f1 l0 l1; have hl4 := MF hl; refine RE h ?_; unfold MQ; dsimp only; rw [w64 (n := fr + 3) (by omega) (by omega), w64 (n := fr + 5) (by omega) (by omega), w64 (n := fr + 7) (by omega) (by omega)]; refine hA.at (by omega) (hM.at (by decide) (by decide) ?_); generalize F8 (atF raw (fr + 3)) 4 = k
 refine Ad.mid (fun d => UL (2 * B) l l.length d) ?_ fun d hd => ⟨fun _ => ?_, fun _ => ?_⟩
 ·refine AF.of (fun q => (0 ≤ q.2 ∧ q.2 ≤ l.length) ∧ UL (2 * B) l q.2.toNat q.1) (fun q => (l.length - q.2).toNat) ⟨⟨Qa1 _, Qa3 _⟩, by exact ⟨by simp, fun f hf => nomatch hf⟩⟩ ?_; rintro ⟨d, i⟩ ⟨⟨i0, i1⟩, hd⟩; dsimp only at i0 i1 hd ⊢; refine ⟨fun hi => ?_, fun hi => by have hi := of_decide_eq_false hi; rw [show i.toNat = l.length by omega] at hd; exact hd⟩
  have hi := of_decide_eq_true hi
  have hi2 : i.toNat < l.length := by omega
  have hb := hl.2 _ (Br (d := ([], [])) hi2); have hb0 := hb; unfold P7 at hb0; have hdl := Aa6 hd hl4
  refine Ad.mid (fun d => UL (2 * B) l (i.toNat + 1) d) ⟨⟨i0, hi⟩, hi2, ?_⟩ fun d hn => ?_
  ·refine Ad.mid (fun f => f.1 = (l.getD i.toNat ([], [])).1 ∧ P7 (2 * B) f.2) ⟨fun _ => ?_, fun _ => ⟨rfl, by unfold P7; omega⟩⟩ fun f hf => ⟨by simp only [Qa2, Qa5]; omega, ?_⟩
   ·refine (hN ((l.getD i.toNat ([], [])).2, (raw, fr + 7)) (by dsimp only; omega) ⟨by dsimp only; omega, by dsimp only; omega⟩).to ?_
    rintro (v : Bs) _ hv; have hv : v.length ≤ (l.getD i.toNat ([], [])).2.length + 4 * ((l.getD i.toNat ([], [])).2.count 10 + 1) ∧ v.count 10 ≤ 2 * (l.getD i.toNat ([], [])).2.count 10 + 1 := hv
    have hvb : P7 (2 * B) v := by unfold P7; omega
    exact hA.at (by omega) ⟨by decide, fun _ => ZC hd hi2, fun _ => ⟨rfl, hvb⟩⟩
   ·obtain ⟨a, b⟩ := f; have e : a = (l.getD i.toNat ([], [])).1 := hf.1; subst e; exact Aa5 hd hi2 hf.2
  ·rw [w64 (by omega) (by omega)]; exact ⟨⟨⟨by omega, by omega⟩, by rw [show (i + 1).toNat = i.toNat + 1 by omega]; exact hn⟩, by omega⟩
 ·refine (hF (raw, (fr, lines)) ⟨by dsimp only; omega, by dsimp only; omega⟩ ⟨l0, l1⟩).to ?_
  rintro (e : List Bh) _ he; have he : e = Hu raw fr lines := he; rw [he]; exact (Ve l0 l1).mono (by omega)
 ·refine ⟨?_, hd.2⟩; have := hd.1; rw [Qg3] at this; exact this.trans hl.1
def IK (i : Int) (l : List Int) : Prop := l.length ≤ 3 ∧ l.Nodup ∧ ∀ p ∈ l, 0 ≤ p ∧ p < i
def OkC (B : Nat) (i : Nat) (c : Ai) : Prop := IK (i : Int) c.1 ∧ (0 ≤ c.2.1 ∧ c.2.1 < 5) ∧ Hm (B * 2 ^ i) c.2.2
def GU (B : Nat) (g : List Ai) : Prop := ∀ j, j < g.length → OkC B j (g.getD j ([], (0, [])))
theorem IK.mono {i k : Int} {l : List Int} (h : IK i l) (hk : i ≤ k) : IK k l := ⟨h.1, h.2.1, fun p hp => by have := h.2.2 p hp; omega⟩
theorem IK.app {i : Int} {l : List Int} (h : IK i l) (h0 : 0 ≤ i) (hl : l.length < 3) : IK (i + 1) (l ++ [i]) := by
 refine ⟨by rw [Qa7]; simp only [Qa2, Qa5]; omega, ?_, fun p hp => ?_⟩
 ·rw [Qe4]; refine ⟨h.2.1, by simp, fun a ha b hb => ?_⟩; rw [List.mem_singleton.1 hb]; have := h.2.2 a ha; omega
 ·rcases List.mem_append.1 hp with hp | hp
  ·have := h.2.2 p hp; omega
  ·rw [List.mem_singleton.1 hp]; omega
theorem GU.app {B : Nat} {g : List Ai} {c : Ai} (h : GU B g) (hc : OkC B g.length c) : GU B (g ++ [c]) := by
 intro j hj; rw [Qa7, List.length_singleton] at hj
 by_cases hjg : j < g.length
 ·rw [Aff hjg]; exact h j hjg
 ·have e : j = g.length := by omega
  subst e; rw [Afg]; exact hc
theorem AbN {B i : Nat} (hB : B ≤ 3) (hi : i ≤ 8) : B * 2 ^ i ≤ 768 := Nat.mul_le_mul hB (Nat.pow_le_pow_right (by decide) hi : 2 ^ i ≤ 2 ^ 8)
theorem AeB {B i p : Nat} (h : p < i) : 2 * (B * 2 ^ p) ≤ B * 2 ^ i := by
 have h1 : 2 ^ (p + 1) ≤ 2 ^ i := Nat.pow_le_pow_right (by decide) h
 have h2 : 2 * (B * 2 ^ p) = B * 2 ^ (p + 1) := by rw [Nat.pow_succ, Nat.mul_comm 2, Nat.mul_assoc]
 rw [h2]; exact Nat.mul_le_mul_left _ h1
theorem pow_one (B i : Nat) : B ≤ B * 2 ^ i := Nat.le_mul_of_pos_right _ (Nat.pow_pos (by decide))
theorem Qb {a b : Bool} (h : (cond a b false) = true) : a = true ∧ b = true := by cases a <;> simp_all
def Ry (n : Nat) (c : Ai) : Ai := (c.1.map fun p => (n : Int) - 1 - p, c.2)
def AaE (g d : List Ai) : Prop := d = g ∨ (d.length = g.length ∧ ∀ c, c < g.length → d.getD (g.length - 1 - c) ([], (0, [])) = Ry g.length (g.getD c ([], (0, []))))
theorem Vv {α : Type} {l : List α} {i : Nat} {v d : α} (h : i < l.length) : (l.set i v).getD i d = v := by
 rw [Qa0, List.getElem?_set_self h]; rfl
theorem getD_set_ne {α : Type} {l : List α} {i j : Nat} {v d : α} (h : i ≠ j) : (l.set i v).getD j d = l.getD j d := by
 rw [Qa0, List.getElem?_set_ne h, ← Qa0]
def N2 (P : Pg) : Prop := ∀ x : List Ai × List Int, x.1.length ≤ 1000 → (∀ j, j < x.1.length → (x.1.getD j ([], (0, []))).1.length ≤ 1000 ∧ ∀ p ∈ (x.1.getD j ([], (0, []))).1, 0 ≤ p ∧ p < (x.1.length : Int)) → Fn P Ack Dz x fun (d : List Ai) _ => AaE x.1 d
theorem Aan (h : Has P GR) (hA : LC P) : N2 P := by
 rintro ⟨g, raw⟩ hg hp; dsimp only at hg hp; refine RD h ?_; unfold MP; dsimp only; refine hA.at (by decide) ⟨by decide, fun _ => Or.inl rfl, fun _ => ⟨⟨by omega, by omega, by omega⟩, ?_⟩⟩
 refine Ad.mid (fun d => d.length = g.length ∧ ∀ c, c < g.length → d.getD (g.length - 1 - c) ([], (0, [])) = Ry g.length (g.getD c ([], (0, [])))) ?_ fun _ h => Or.inr h
 refine AF.of (fun q => (0 ≤ q.2 ∧ q.2 ≤ g.length) ∧ q.1.length = g.length ∧ ∀ c, c < q.2.toNat → q.1.getD (g.length - 1 - c) ([], (0, [])) = Ry g.length (g.getD c ([], (0, [])))) (fun q => (g.length - q.2).toNat) ⟨⟨Qa1 _, Qa3 _⟩, by simp, fun c hc => absurd hc (by simp)⟩ ?_; rintro ⟨d, i⟩ ⟨⟨i0, i1⟩, hdl, hd⟩; dsimp only at i0 i1 hdl hd ⊢
 refine ⟨fun hi => ?_, fun hi => by have hi := of_decide_eq_false hi; exact ⟨hdl, fun c hc => hd c (by omega)⟩⟩
 have hi := of_decide_eq_true hi
 have hi2 : i.toNat < g.length := by omega
 obtain ⟨hpl, hpp⟩ := hp i.toNat hi2
 refine Ad.mid (fun d => d.length = g.length ∧ ∀ c, c < i.toNat + 1 → d.getD (g.length - 1 - c) ([], (0, [])) = Ry g.length (g.getD c ([], (0, [])))) ⟨⟨i0, hi⟩, hi2, ?_⟩ fun d2 hn => ?_
 ·have ez : g.getD i.toNat Aj = g.getD i.toNat ([], (0, [])) := rfl; rw [ez]
  refine Ad.mid (fun y => y = Ry g.length (g.getD i.toNat ([], (0, [])))) ?_ fun y hy => ?_
  ·generalize g.getD i.toNat ([], (0, [])) = cm at hpl hpp ⊢; obtain ⟨l, r⟩ := cm; dsimp only at hpl hpp ⊢; refine AF.of (fun q => (0 ≤ q.1 ∧ q.1 ≤ l.length) ∧ q.2 = ((l.take q.1.toNat).map (fun p => (g.length : Int) - 1 - p), r)) (fun q => (l.length - q.1).toNat) ⟨⟨Qa1 _, Qa3 _⟩, rfl⟩ ?_; rintro ⟨k, x⟩ ⟨⟨k0, k1⟩, hx⟩; dsimp only at k0 k1 hx ⊢; subst hx
   refine ⟨⟨i0, hi⟩, hi2, fun hk => ?_, fun hk => ?_⟩
   ·have hk := of_decide_eq_true hk
    have hk2 : k.toNat < l.length := by omega
    have hb := hpp _ (Br (d := 0) hk2)
    have hnx : (l.take (k.toNat + 1)).map (fun p => (g.length : Int) - 1 - p) = (l.take k.toNat).map (fun p => (g.length : Int) - 1 - p) ++ [(g.length : Int) - 1 - l.getD k.toNat 0] := by
     rw [FQ (d := 0) hk2, Qc3]; rfl
    have hsz : (((l.take k.toNat).map (fun p => (g.length : Int) - 1 - p)).length + ([(g.length : Int) - 1 - l.getD k.toNat 0] : List Int).length) * 8 ≤ 140737488355328 := by
     rw [Qd9, Qa9]; simp only [Qa2, Qa5]; omega
    rw [w64 (n := (g.length : Int) - 1) (by omega) (by omega), w64 (n := (g.length : Int) - 1 - l.getD k.toNat 0) (by omega) (by omega)]
    refine Ad.mid (fun y => y = ((l.take (k.toNat + 1)).map (fun p => (g.length : Int) - 1 - p), r)) ?_ fun y hy => ?_
    ·refine Ad.mid (fun y => y = ((l.take (k.toNat + 1)).map (fun p => (g.length : Int) - 1 - p), r)) ?_ fun y hy => hy
     have hj : (((l.take k.toNat).map (fun p => (g.length : Int) - 1 - p) ++ ([(g.length : Int) - 1 - l.getD k.toNat 0] : List Int), r) : Ai) = ((l.take (k.toNat + 1)).map (fun p => (g.length : Int) - 1 - p), r) := by rw [hnx]
     exact ⟨⟨i0, hi⟩, hi2, ⟨k0, hk⟩, hk2, ⟨⟨⟨hsz, hj, trivial⟩, trivial⟩, trivial⟩, ⟨⟨hsz, hj, trivial⟩, trivial⟩, trivial⟩
    ·subst hy; rw [w64 (by omega) (by omega)]; exact ⟨⟨⟨by omega, by omega⟩, by rw [show (k + 1).toNat = k.toNat + 1 by omega]⟩, by omega⟩
   ·have hk := of_decide_eq_false hk; show ((l.take k.toNat).map _, r) = Ry g.length (l, r); rw [Qa8 (by omega)]; rfl
  ·rw [w64 (n := (g.length : Int) - 1) (by omega) (by omega), w64 (n := (g.length : Int) - 1 - i) (by omega) (by omega)]
   have e : ((g.length : Int) - 1 - i).toNat = g.length - 1 - i.toNat := by omega
   rw [e]; refine ⟨⟨by omega, by omega⟩, by omega, ?_, fun c hc => ?_⟩
   ·rw [Qb1]; exact hdl
   ·by_cases hci : c = i.toNat
    ·subst hci; rw [Vv (by omega)]; exact hy
    ·rw [getD_set_ne (by omega)]; exact hd c (by omega)
 ·rw [w64 (by omega) (by omega)]; exact ⟨⟨⟨by omega, by omega⟩, hn.1, by rw [show (i + 1).toNat = i.toNat + 1 by omega]; exact hn.2⟩, by omega⟩
theorem AbS {g : List Ai} (hv : Sm g) (f : Int → Int) (h : ∀ c, inR g c → ∀ p ∈ A8 g c, f p < f c) {a b : Int} (hr : Rch g a b) : inR g a → f b ≤ f a := by
 induction hr with
 | refl c => exact fun _ => Qa1 _
 | step hm t ih =>
  intro ha; have h1 := h _ ha _ hm; have h2 := ih (hv _ ha _ hm); omega
theorem AbK {g : List Ai} (hv : Sm g) (f : Int → Int) (h : ∀ c, inR g c → ∀ p ∈ A8 g c, f p < f c) : ¬Lz g := by
 rintro ⟨c, hc, p, hp, hr⟩; have h1 := h c hc p hp; have h2 := AbS hv f h hr (hv c hc p hp); omega
theorem Adu {n : Nat} {l : List Int} (hn : l.Nodup) (h : ∀ p ∈ l, 0 ≤ p ∧ p < (n : Int)) : Po n l := by
 intro j hj; refine ⟨h _ (Br hj), fun hm => ?_⟩; obtain ⟨i, hi⟩ := Qb7 hm; have hi2 : i < (l.take j).length := (List.getElem?_eq_some_iff.1 hi).1; rw [Qa9] at hi2; rw [Qg4 (by omega), Qa4 (by omega), Qa0, Qa4 hj, Qb6] at hi
 rw [Qc5, Qc7] at hn; exact hn i j (by omega) hj (by omega) (Qi2 hi)
def AaD (n : Nat) (g : List Ai) : Prop := g.length ≤ n ∧ Dt g 0 ∧ Mt g ∧ ∀ c ∈ g, Hm 768 c.2.2 ∧ c.1.length ≤ 3
theorem ME : ∀ {g : List Ai}, (∀ c ∈ g, Fm c.2.2 = 0) → GP g = 0
 | [], _ => rfl
 | c :: g, h => by
  rw [GP, if_neg (by simpa using h c (Qb0 ..))]
  exact ME fun x hx => h x (Qb3 _ hx)
theorem YU {n : Nat} {g : List Ai} (hn : g.length ≤ n) (hn2 : n ≤ 9) (f : Int → Int) (h : ∀ j, j < g.length → (g.getD j ([], (0, []))).1.length ≤ 3 ∧ (g.getD j ([], (0, []))).1.Nodup ∧ (∀ p ∈ (g.getD j ([], (0, []))).1, (0 ≤ p ∧ p < (g.length : Int)) ∧ f p < f j) ∧ (0 ≤ (g.getD j ([], (0, []))).2.1 ∧ (g.getD j ([], (0, []))).2.1 < 5) ∧ Hm 768 (g.getD j ([], (0, []))).2.2) : AaD n g := by
 have hT : ∀ c ∈ g, Hm 768 c.2.2 ∧ c.1.length ≤ 3 := CO (d := ([], (0, []))) fun j hj => ⟨(h j hj).2.2.2.2, (h j hj).1⟩
 have hrel : G7 g := CO (d := ([], (0, []))) (p := fun c => Po g.length c.1) fun j hj => Adu (h j hj).2.1 fun p hp => ((h j hj).2.2.1 p hp).1
 have hv := HD hrel; refine ⟨hn, Oy ⟨by omega, fun c hc => Qc0 (hT c hc).2 (by decide)⟩ hrel (AbK hv f fun c hc p hp => ?_) (CO (d := ([], (0, []))) (p := fun c => 0 ≤ c.2.1 ∧ c.2.1 ≤ 2147483647) fun j hj => by have := (h j hj).2.2.2.1; omega) (ME fun c hc => Aau (hT c hc).1 (by decide)).symm, fun c hc => (Ace (hT c hc).1 (by decide)).2, hT⟩
 have h0 := hc.1; have h1 := hc.2; have := ((h c.toNat (by omega)).2.2.1 p hp).2; rw [show ((c.toNat : Nat) : Int) = c by omega] at this; exact this
theorem Afh {B n : Nat} {g : List Ai} (hB : B ≤ 3) (hn : g.length ≤ n) (hn2 : n ≤ 9) (h : GU B g) : AaD n g := YU hn hn2 (fun x => x) fun j hj => by
 obtain ⟨⟨h1, h2, h3⟩, h4, h5⟩ := h j hj; exact ⟨h1, h2, fun p hp => ⟨by have := h3 p hp; omega, (h3 p hp).2⟩, h4, h5.mono (AbN hB (by omega))⟩
theorem Z3 {α β : Type} {f : α → β} (hf : ∀ a b, f a = f b → a = b) {l : List α} (h : l.Nodup) : (l.map f).Nodup := by
 rw [Qc5] at *; rw [Qe3]
 exact h.imp fun hne e => hne (hf _ _ e)
theorem AdO {B n : Nat} {g d : List Ai} (hB : B ≤ 3) (hn : g.length ≤ n) (hn2 : n ≤ 9) (h : GU B g) (ht : AaE g d) : AaD n d := by
 rcases ht with rfl | ⟨hl, ht⟩
 ·exact Afh hB hn hn2 h
 ·refine YU (by omega) hn2 (fun x => -x) fun j hj => ?_
  have e := ht (g.length - 1 - j) (by omega); rw [show g.length - 1 - (g.length - 1 - j) = j by omega] at e; rw [e]; obtain ⟨⟨h1, h2, h3⟩, h4, h5⟩ := h (g.length - 1 - j) (by omega); refine ⟨by unfold Ry; rw [Qd9]; exact h1, Z3 (fun a b e => by omega) h2, fun p hp => ?_, h4, h5.mono (AbN hB (by omega))⟩
  obtain ⟨q, hq, rfl⟩ := List.mem_map.1 hp; have := h3 q hq; omega
def PS (P : Pg) : Prop := ∀ x : List Int × (Int × Int), (0 ≤ x.2.1 ∧ x.2.1 ≤ 9) → (0 ≤ x.2.2 ∧ x.2.2 ≤ 2) → Fn P Acl DX x fun (d : List Ai) _ => AaD x.2.1.toNat d
theorem Ab5 (h : Has P HY) (hA : LC P) (hM : Jj P) (hF : IL P) (hC : NW P) (hT : N2 P) : PS P := by
 rintro ⟨raw, n, lines⟩ ⟨n0, n1⟩ ⟨l0, l1⟩; dsimp only at n0 n1 l0 l1; refine TR h ?_; unfold OS; dsimp only; rw [w64 (n := n + 1) (by omega) (by omega)]; refine hA.at (by decide) (hM.at (by omega) (by omega) ?_); have hr := EE (a := atF raw 0) (n := n + 1) (by omega) (by omega); generalize F8 (atF raw 0) (n + 1) = m at hr ⊢
 have hB : lines.toNat + 1 ≤ 3 := by omega
 refine Ad.mid (fun g => g.length = m.toNat ∧ GU (lines.toNat + 1) g) ?_ fun g hg => ?_
 ·refine AF.of (fun q => (0 ≤ q.2 ∧ q.2 ≤ m) ∧ q.1.length = q.2.toNat ∧ GU (lines.toNat + 1) q.1) (fun q => (m - q.2).toNat) ⟨⟨Qa1 _, hr.1⟩, rfl, fun j hj => absurd hj (by simp)⟩ ?_; rintro ⟨g, i⟩ ⟨⟨i0, i1⟩, hgl, hg⟩; dsimp only at i0 i1 hgl hg ⊢; refine ⟨fun hi => ?_, fun hi => by have hi := of_decide_eq_false hi; exact ⟨by omega, hg⟩⟩
  have hi := of_decide_eq_true hi
  refine Ad.mid (fun g => g.length = i.toNat + 1 ∧ GU (lines.toNat + 1) g) ?_ fun g2 hn => ?_
  ·rw [w64 (n := 1000 + i) (by omega) (by omega), w64 (n := 40 * i) (by omega) (by omega), w64 (n := 1100 + 40 * i) (by omega) (by omega), w64 (n := 1500 + i) (by omega) (by omega), w64 (n := 200 * i) (by omega) (by omega), w64 (n := 2000 + 200 * i) (by omega) (by omega), w64 (n := 1600 + i) (by omega) (by omega), w64 (n := i - 1) (by omega) (by omega)]
   refine hA.at (by omega) (hM.at (by decide) (by decide) ?_); have hdr := EE (a := atF raw (1000 + i)) (n := 5) (by decide) (by decide); generalize F8 (atF raw (1000 + i)) 5 = dt at hdr ⊢
   refine Ad.mid (fun x => IK i x.1 ∧ x.2 = (dt, [])) ?_ fun x hx => ?_
   ·refine AF.of (fun q => (0 ≤ q.1 ∧ q.1 ≤ i) ∧ IK q.1 q.2.1 ∧ q.2.2 = (dt, [])) (fun q => (i - q.1).toNat) ⟨⟨Qa1 _, i0⟩, ⟨Qd7 _, List.nodup_nil, fun p hp => nomatch hp⟩, rfl⟩ ?_; rintro ⟨p, ⟨l, r⟩⟩ ⟨⟨p0, p1⟩, hl, hrr⟩; dsimp only at p0 p1 hl hrr ⊢; refine ⟨fun hp => ?_, fun hp => by have hp := of_decide_eq_false hp; exact ⟨hl.mono (by omega), hrr⟩⟩
    have hp := of_decide_eq_true hp
    refine Ad.mid (fun x => IK (p + 1) x.1 ∧ x.2 = (dt, [])) ?_ fun x hx => ?_
    ·rw [w64 (n := 1100 + 40 * i + p) (by omega) (by omega)]; refine hA.at (by omega) ⟨by decide, ?_⟩
     refine Ad.mid (fun x => IK (p + 1) x.1 ∧ x.2 = (dt, [])) ⟨fun hb => ?_, fun _ => ⟨hl.mono (by omega), hrr⟩⟩ fun _ h => h
     have hb2 := of_decide_eq_true (Qb hb).2; exact ⟨by simp only [Qa2, Qa5]; omega, hl.app p0 (by omega), hrr⟩
    ·rw [w64 (by omega) (by omega)]; exact ⟨⟨⟨by omega, by omega⟩, hx.1, hx.2⟩, by omega⟩
   ·refine Ad.mid (fun _ => True) ⟨fun _ => hA.at (by omega) trivial, fun _ => trivial, trivial⟩ fun d27 _ => ⟨fun _ => by decide, ?_⟩
    refine Ad.mid (fun y => IK i y.1 ∧ y.2 = (dt, [])) ⟨fun hb => ?_, fun _ => hx⟩ fun y hy => ?_
    ·have hi0 := of_decide_eq_true (Qb (Qb hb).1).2; exact ⟨⟨Nat.succ_le_succ (Qd7 _), by simp, fun p hp => by rw [List.mem_singleton.1 hp]; omega⟩, hx.2⟩
    ·obtain ⟨hy1, hy2⟩ := hy; refine (hF (raw, (2000 + 200 * i, lines)) ⟨by dsimp only; omega, by dsimp only; omega⟩ ⟨l0, by dsimp only; omega⟩).to ?_
     rintro (fl : List Bh) _ hfl; have hfl : fl = Hu raw (2000 + 200 * i) lines := hfl
     have hfs : Hm (lines.toNat + 1) fl := by rw [hfl]; exact Ve l0 (by omega)
     refine Ad.mid (fun _ => True) ⟨fun _ => hA.at (by omega) trivial, fun _ => trivial, trivial⟩ fun d34 _ => ⟨fun _ => by decide, ?_⟩
     have hii : ((i.toNat : Nat) : Int) = i := by omega
     have hy1' : IK ((i.toNat : Nat) : Int) y.1 := by rw [hii]; exact hy1
     have hdt : 0 ≤ y.2.1 ∧ y.2.1 < 5 := by rw [hy2]; exact hdr
     refine Ad.mid (fun z => OkC (lines.toNat + 1) i.toNat z) ⟨fun hb => ?_, fun _ => ?_⟩ fun z hz => ⟨by simp only [Qa2, Qa5]; omega, ?_, hg.app (by rw [hgl]; exact hz)⟩
     ·have hpos := of_decide_eq_true (Qb hb).1
      have hpos2 : 0 < y.1.length := by omega
      have hp := hy1.2.2 _ (Br (d := 0) hpos2); refine ⟨⟨by decide, by omega⟩, hpos2, ⟨hp.1, by rw [hgl]; exact (show y.1.getD 0 0 < ((i.toNat : Nat) : Int) by rw [hii]; exact hp.2)⟩, by have := hp.1; have := hp.2; show (y.1.getD 0 0).toNat < g.length; omega, ?_⟩
      have hpn : (y.1.getD 0 0).toNat < i.toNat := by omega
      have hog := hg (y.1.getD 0 0).toNat (by omega); have hpb := AbN (B := lines.toNat + 1) (i := (y.1.getD 0 0).toNat) hB (by omega); have hpo := pow_one (lines.toNat + 1) (y.1.getD 0 0).toNat; have hup := AeB (B := lines.toNat + 1) hpn
      refine (hC ((lines.toNat + 1) * 2 ^ (y.1.getD 0 0).toNat) ((g.getD (y.1.getD 0 0).toNat ([], (0, []))).2.2, (raw, (2000 + 200 * i, lines))) hog.2.2 hpo (by omega) ⟨by dsimp only; omega, by dsimp only; omega⟩ ⟨l0, by dsimp only; omega⟩).to ?_
      rintro (fl2 : List Bh) _ hfl2; exact ⟨hy1', hdt, Hm.mono hfl2 hup⟩
     ·exact ⟨hy1', hdt, hfs.mono (pow_one _ _)⟩
     ·rw [Qa7, hgl]; rfl
  ·rw [w64 (by omega) (by omega)]; exact ⟨⟨⟨by omega, by omega⟩, by rw [hn.1]; omega, hn.2⟩, by omega⟩
 ·refine (hT (g, raw) (by dsimp only; omega) fun j hj => ?_).to ?_
  ·have := (hg.2 j hj).1; exact ⟨Qc0 this.1 (by decide), fun p hp => by have h3 := this.2.2 p hp; have hj : j < g.length := hj; dsimp only; omega⟩
  ·rintro (d : List Ai) _ hd; exact AdO hB (by omega) (by omega) hg.2 hd
structure LY (g : List Ai) (c e : Int) (s : List Bool) (o : List Int) : Prop where
 len : s.length = g.length
 base : inS s c
 snd : ∀ x, 0 ≤ x → inS s x → Rch g c x
 opn : ∀ x ∈ o, inR g x ∧ inS s x
 clo : ∀ x, inR g x → inS s x → x ∉ o → x ≠ e → ∀ p ∈ A8 g x, inS s p
 cnt : o.length ≤ s.count true
def KF (s : List Bool) (o : List Int) : Nat := 2 * (s.length - s.count true) + o.length
theorem YM {s : List Bool} {p : Int} (hp : p.toNat < s.length) (h : ¬inS s p) : (s.set p.toNat true).count true = s.count true + 1 := by
 unfold inS at h; rw [getD_eq hp] at h
 have h : s[p.toNat] = false := by simpa using h
 rw [List.count_set hp, h]; simp
theorem LY.push {g : List Ai} {c e p : Int} {s : List Bool} {o : List Int} (h : LY g c e s o) (he : 0 ≤ e) (hs : inS s e) (hp : p ∈ A8 g e) (hr : inR g p) (hn : ¬inS s p) : LY g c e (s.set p.toNat true) (o ++ [p]) ∧ KF (s.set p.toNat true) (o ++ [p]) < KF s o := by
 have hpl : p.toNat < s.length := by have := h.len; have := hr.1; have := hr.2; omega
 have hc := YM hpl hn; have hcl : (s.set p.toNat true).count true ≤ (s.set p.toNat true).length := Qc2; rw [Qb1] at hcl; refine ⟨⟨by rw [Qb1]; exact h.len, G9.2 _ h.base, fun x h0 hx => ?_, fun x hx => ?_, fun x hx hi hno hne q hq => ?_, ?_⟩, ?_⟩
 ·rcases (Ga hpl hr.1 h0).1 hx with rfl | hx
  ·exact (h.snd e he hs).snoc hp
  ·exact h.snd x h0 hx
 ·rcases List.mem_append.1 hx with hx | hx
  ·exact ⟨(h.opn x hx).1, G9.2 _ (h.opn x hx).2⟩
  ·rw [List.mem_singleton.1 hx]; exact ⟨hr, (Ga hpl hr.1 hr.1).2 (.inl rfl)⟩
 ·have hno1 : x ∉ o := fun k => hno (Qh9 _ k)
  have hno2 : x ≠ p := fun k => hno (Qh4 _ (by rw [k]; exact Qb2 _))
  rcases (Ga hpl hr.1 hx.1).1 hi with k | hi
  ·exact absurd k hno2
  ·exact G9.2 _ (h.clo x hx hi hno1 hne q hq)
 ·have := h.cnt; rw [Qa7, hc]; simp only [Qa2, Qa5]; omega
 ·unfold KF; rw [Qb1, Qa7, hc]; simp only [Qa2, Qa5]; omega
theorem LY.pop {g : List Ai} {c : Int} {s : List Bool} {o : List Int} (h : LY g c (-1) s o) (ho : 0 < o.length) : LY g c (o.getD (o.length - 1) 0) s (o.take (o.length - 1)) ∧ KF s (o.take (o.length - 1)) < KF s o ∧ o.getD (o.length - 1) 0 ∈ o := by
 have hm : o.getD (o.length - 1) 0 ∈ o := Br (by omega)
 have hsp : o = o.take (o.length - 1) ++ [o.getD (o.length - 1) 0] := by
  rw [getD_eq (by omega), List.take_append_getElem (by omega), Nat.sub_add_cancel ho, Qg3]
 refine ⟨⟨h.len, h.base, h.snd, fun x hx => h.opn x (Qh8 hx), fun x hx hi hno hne => h.clo x hx hi (fun k => ?_) (fun k => by have := hx.1; omega), ?_⟩, ?_, hm⟩
 ·rw [hsp] at k
  rcases List.mem_append.1 k with k | k
  ·exact hno k
  ·exact hne (List.mem_singleton.1 k)
 ·have := h.cnt; rw [Qa9]; omega
 ·unfold KF; rw [Qa9]; omega
theorem LY.done {g : List Ai} {c e : Int} {s : List Bool} {o : List Int} (h : LY g c e s o) (hp : ∀ p ∈ A8 g e, inS s p) : LY g c (-1) s o :=
 ⟨h.len, h.base, h.snd, h.opn, fun x hx hi hno _ => by
  by_cases k : x = e
  ·rw [k]; exact hp
  ·exact h.clo x hx hi hno k, h.cnt⟩
def Jh (P : Pg) : Prop := ∀ x : List Ai × Int, x.1.length ≤ 1000000 → Sm x.1 → (∀ c, inR x.1 c → (A8 x.1 c).length ≤ 1000000) → inR x.1 x.2 → Fn P YA A9 x fun (d : List Bool) _ => L0 x.1 [x.2] d
theorem AdH (h : Has P Dx) : Jh P := by
 rintro ⟨g, c⟩ hn hv hpl hc; dsimp only at hn hv hpl hc; refine JZ h ?_; unfold GB; dsimp only
 have hc2 : c.toNat < g.length := by have := hc.1; have := hc.2; omega
 have hrl : (Qh1 (Qb9 ((g.length : Nat) : Int)) false).length = g.length := by simp
 generalize hs0 : Qh1 (Qb9 ((g.length : Nat) : Int)) false = s0 at hrl
 have hnone : ∀ x, ¬inS s0 x := fun x hx => by
  have hl := XN hx; rw [← hs0] at hl hx; unfold inS at hx; rw [EC (by simpa using hl)] at hx; cases hx
 refine ⟨⟨Qa3 _, Qa1 _, by omega⟩, ⟨hc.1, by rw [hrl]; exact hc.2⟩, by omega, ?_⟩
 refine Ad.mid (fun s => L0 g [c] s) ?_ fun _ h => h
 refine AF.of (fun q => LY g c (-1) q.1 q.2) (fun q => KF q.1 q.2) ⟨by rw [Qb1]; exact hrl, (Ga (by omega) hc.1 hc.1).2 (.inl rfl), fun x h0 hx => ?_, fun x hx => ?_, fun x hx hi hno => ?_, ?_⟩ ?_
 ·rcases (Ga (by omega) hc.1 h0).1 hx with rfl | hx
  ·exact .refl _
  ·exact absurd hx (hnone x)
 ·rw [List.mem_singleton.1 hx]; exact ⟨hc, (Ga (by omega) hc.1 hc.1).2 (.inl rfl)⟩
 ·rcases (Ga (by omega) hc.1 hx.1).1 hi with rfl | hi
  ·exact absurd (Qb2 _) hno
  ·exact absurd hi (hnone x)
 ·dsimp only; rw [YM (by omega) (hnone c)]; simp
 rintro ⟨s, o⟩ hI; dsimp only at hI ⊢; have hcl : s.count true ≤ s.length := Qc2
 have hol : o.length ≤ 1000000 := by have := hI.cnt; have := hI.len; omega
 refine ⟨fun ho => ?_, fun ho => ?_⟩
 ·have ho := of_decide_eq_true ho
  have ho2 : 0 < o.length := by omega
  have ew : IntKind.i64.wrap (((o.length : Nat) : Int) - 1) = ((o.length - 1 : Nat) : Int) := by rw [w64 (by omega) (by omega)]; omega
  obtain ⟨hP, hPm, hlm⟩ := hI.pop ho2; obtain ⟨hlr, hls⟩ := hI.opn _ hlm; rw [ew, Int.toNat_natCast, List.drop_zero]; generalize o.getD (o.length - 1) 0 = e at hP hlm hlr hls
  have he2 : e.toNat < g.length := by have := hlr.1; have := hlr.2; omega
  refine Ad.mid (fun q => LY g c (-1) q.1 q.2 ∧ KF q.1 q.2 < KF s o) ?_ fun _ h => h
  refine ⟨⟨by omega, by omega⟩, by omega, ⟨by omega, by omega⟩, by omega, ⟨hlr.1, hlr.2⟩, he2, ?_⟩
  refine Ad.mid (fun q => LY g c (-1) q.1 q.2 ∧ KF q.1 q.2 < KF s o) ?_ fun _ h => h
  have hple := hpl e hlr; have hve := hv e hlr; show AF _ _; refine AF.of (fun q => (0 ≤ q.2.2 ∧ q.2.2 ≤ (A8 g e).length) ∧ LY g c e q.1 q.2.1 ∧ inS q.1 e ∧ (∀ p ∈ (A8 g e).take q.2.2.toNat, inS q.1 p) ∧ KF q.1 q.2.1 < KF s o) (fun q => ((A8 g e).length - q.2.2).toNat) ⟨⟨Qa1 _, Qa3 _⟩, hP, hls, fun _ hp => by simp at hp, hPm⟩ ?_; rintro ⟨t, u, i⟩ ⟨⟨i0, i1⟩, hT, hte, hpr, hms⟩
  dsimp only at i0 i1 hT hte hpr hms ⊢; have htc : t.count true ≤ t.length := Qc2
  have hul : u.length ≤ 1000000 := by have := hT.cnt; have := hT.len; omega
  refine ⟨fun hi => ?_, fun hi => ?_⟩
  ·have hi := of_decide_eq_true hi; have hi : i < (((A8 g e).length : Nat) : Int) := hi
   have hi2 : i.toNat < (A8 g e).length := by omega
   have hpm : (A8 g e).getD i.toNat 0 ∈ A8 g e := Br hi2; have hpr2 := hve _ hpm
   have hnx : ∀ q ∈ (A8 g e).take (i.toNat + 1), q ∈ (A8 g e).take i.toNat ∨ q = (A8 g e).getD i.toNat 0 := fun q hq => by
    rw [FQ (d := 0) hi2] at hq
    rcases List.mem_append.1 hq with hq | hq
    ·exact .inl hq
    ·exact .inr (List.mem_singleton.1 hq)
   have hpl2 : ((A8 g e).getD i.toNat 0).toNat < t.length := by have := hT.len; have := hpr2.1; have := hpr2.2; omega
   have hpl3 : (A8 g e).getD i.toNat 0 < ((t.length : Nat) : Int) := by have := hT.len; have := hpr2.2; omega
   refine Ad.mid (fun q => LY g c e q.1 q.2 ∧ inS q.1 e ∧ (∀ p ∈ (A8 g e).take (i.toNat + 1), inS q.1 p) ∧ KF q.1 q.2 < KF s o) ⟨⟨i0, hi⟩, hi2, ⟨hpr2.1, hpl3⟩, hpl2, ?_⟩ fun q hq => by
    rw [w64 (by omega) (by omega)]; exact ⟨⟨⟨by omega, by omega⟩, hq.1, hq.2.1, by rw [show (i + 1).toNat = i.toNat + 1 by omega]; exact hq.2.2.1, hq.2.2.2⟩, by omega⟩
   refine Ad.mid (fun q => LY g c e q.1 q.2 ∧ inS q.1 e ∧ (∀ p ∈ (A8 g e).take (i.toNat + 1), inS q.1 p) ∧ KF q.1 q.2 < KF s o) ⟨fun hb => ?_, fun hb => ?_⟩ fun _ h => h
   ·have hno : ¬inS t ((A8 g e).getD i.toNat 0) := fun k => by
     have k : t.getD ((A8 g e).getD i.toNat 0).toNat false = true := k; have hb : (!t.getD ((A8 g e).getD i.toNat 0).toNat false) = true := hb; rw [k] at hb; cases hb
    obtain ⟨h1, h2⟩ := hT.push hlr.1 hte hpm hpr2 hno; refine ⟨⟨hpr2.1, hpl3⟩, hpl2, by simp only [Qa2, Qa5]; omega, h1, G9.2 _ hte, fun q hq => ?_, Nat.lt_trans h2 hms⟩
    rcases hnx q hq with hq | rfl
    ·exact G9.2 _ (hpr q hq)
    ·exact (Ga hpl2 hpr2.1 hpr2.1).2 (.inl rfl)
   ·refine ⟨hT, hte, fun q hq => ?_, hms⟩
    rcases hnx q hq with hq | rfl
    ·exact hpr q hq
    ·have hb : (!t.getD ((A8 g e).getD i.toNat 0).toNat false) = false := hb; show t.getD ((A8 g e).getD i.toNat 0).toNat false = true; simpa using hb
  ·have hi := of_decide_eq_false hi; have hi : ¬i < (((A8 g e).length : Nat) : Int) := hi; rw [Qa8 (by omega)] at hpr; exact ⟨hT.done hpr, hms⟩
 ·have ho := of_decide_eq_false ho; have ho : o = [] := List.length_eq_zero_iff.1 (by omega); subst ho; refine ⟨hI.len, fun x hx => ⟨fun h => ⟨c, Qb2 _, hI.snd x hx.1 h⟩, ?_⟩⟩; rintro ⟨f, hf, hr⟩; rw [List.mem_singleton.1 hf] at hr; exact YK hv (fun y hy hi => hI.clo y hy hi (by simp) (fun k => by have := hy.1; omega)) hr hc hI.base
def Ez (P : Pg) : Prop := ∀ x : List Ai × List Int, Mt x.1 → x.2.length ≤ 1000000 → Fn P Yz Bz x fun (d : Int) _ => ∃ e, Dt x.1 e ∧ (e ≠ 0 → d = e) ∧ (e = 0 → ((∀ c ∈ x.2, inR x.1 c) → d = 0) ∧ (¬(∀ c ∈ x.2, inR x.1 c) → d = 5))
theorem WE (h : Has P EJ) (hI : Has P MK) (hD : Kb P) : Ez P := by
 rintro ⟨g, l⟩ hs hl; refine M8 h ?_; unfold IM; dsimp only at hs hl ⊢; refine (hD g hs).to ?_; rintro (e : Int) _ he; have he : Dt g e := he; refine ⟨fun hb => ⟨e, he, fun _ => rfl, fun h0 => absurd h0 (by simpa using hb)⟩, fun hb => ?_⟩
 have h0 : e = 0 := by simpa using hb
 refine Ad.mid (fun _ => ∀ c ∈ l, inR g c) ?_ fun _ ha => ⟨e, he, fun k => absurd h0 k, fun _ => ⟨fun _ => rfl, fun k => absurd ha k⟩⟩
 refine AF.of (fun q => (0 ≤ q.2 ∧ q.2 ≤ l.length) ∧ ∀ c ∈ l.take q.2.toNat, inR g c) (fun q => (l.length - q.2).toNat) ⟨⟨Qa1 _, Qa3 _⟩, fun c hc => by simp at hc⟩ ?_; rintro ⟨q, i⟩ ⟨⟨i0, i1⟩, ha⟩; dsimp only at i0 i1 ha ⊢; refine ⟨fun hi => ?_, fun hi => ?_⟩
 ·have hi := of_decide_eq_true hi
  have hi2 : i.toNat < l.length := by omega
  refine Ad.mid (fun _ => inR g (l.getD i.toNat 0)) ⟨⟨i0, hi⟩, hi2, ZJ hI ?_⟩ fun _ hr => ?_
  ·unfold UM; dsimp only; have hii := Aet g (l.getD i.toNat 0); refine ⟨fun hb => ⟨e, he, fun k => absurd h0 k, fun _ => ⟨fun k => ?_, fun _ => rfl⟩⟩, fun hb => hii.1 (Qg5 (show (!_) = (!true) from hb))⟩; exact absurd ((hii.2 (k _ (Br hi2))).symm.trans (Qg5 (show (!_) = (!false) from hb))) (by decide)
  ·rw [w64 (by omega) (by omega)]; refine ⟨⟨⟨by omega, by omega⟩, fun c hc => ?_⟩, by omega⟩; rw [show (i + 1).toNat = i.toNat + 1 by omega, FQ (d := 0) hi2] at hc
   rcases List.mem_append.1 hc with hc | hc
   ·exact ha c hc
   ·rw [List.mem_singleton.1 hc]; exact hr
 ·have hi := of_decide_eq_false hi; rw [Qa8 (by omega)] at ha; exact ha
def L4 (P : Pg) : Prop := ∀ x : List Ai × Int, Mt x.1 → Fn P Acv BF x fun (d : List Int × Int) _ => LZ x.1 x.2 d
theorem Jo {g : List Ai} (h : Dt g 0) : g.length ≤ 1000000 ∧ Sm g ∧ (∀ c, inR g c → (A8 g c).length ≤ 1000000) := by
 obtain ⟨h1, h2, _⟩ := XR h; exact ⟨by have := h1.1; omega, HD h2, PF h1⟩
theorem Io {g : List Ai} {c : Int} {s : List Bool} (h : L0 g [c] s) {x : Int} (hx : inR g x) : s.getD x.toNat false = true ↔ Rch g c x := by
 refine (h.2 x hx).trans ⟨?_, fun k => ⟨c, Qb2 _, k⟩⟩; rintro ⟨f, hf, k⟩
 rwa [List.mem_singleton.1 hf] at k
theorem Yk (h : Has P Dw) (hC : Ez P) (hA : Jh P) : L4 P := by
 rintro ⟨g, c⟩ hs; dsimp only at hs; refine JY h ?_; unfold GA; dsimp only; refine (hC (g, [c]) hs (by simp)).to ?_; rintro (r : Int) _ ⟨e, he, h1, h2⟩; dsimp only at he h1 h2
 have hall : (∀ x ∈ [c], inR g x) ↔ inR g c := ⟨fun k => k c (Qb2 _), fun k x hx => by rw [List.mem_singleton.1 hx]; exact k⟩
 rw [hall] at h2
 by_cases hk : e = 0
 ·subst hk
  by_cases hc : inR g c
  ·have hr := (h2 rfl).1 hc; subst hr; refine ⟨fun hb => absurd hb (by simp), fun _ => ?_⟩; obtain ⟨hn, hv, hpl⟩ := Jo he; refine (hA (g, c) hn hv hpl hc).to ?_; rintro (s : List Bool) _ hS; have hS : L0 g [c] s := hS; have hsl := hS.1
   refine Ad.mid (fun d => d = (rng g.length).filter fun x => s.getD x.toNat false) ?_ fun d hd => ⟨0, he, fun h => absurd rfl h, fun _ h => absurd hc h, fun _ _ => ⟨⟨fun x => s.getD x.toNat false, fun x hx => Io hS hx, hd⟩, rfl⟩⟩
   refine AF.of (fun q => (0 ≤ q.2 ∧ q.2 ≤ s.length) ∧ q.1 = (rng q.2.toNat).filter fun x => s.getD x.toNat false) (fun q => (s.length - q.2).toNat) ⟨⟨Qa1 _, Qa3 _⟩, rfl⟩ ?_; rintro ⟨q, i⟩ ⟨⟨i0, i1⟩, hq⟩; dsimp only at i0 i1 hq ⊢
   have hql : q.length ≤ 1000000 := by rw [hq]; refine Qc0 (Qc4 _ _) ?_; rw [FM]; omega
   refine ⟨fun hi => ?_, fun hi => ?_⟩
   ·have hi := of_decide_eq_true hi
    have hi2 : i.toNat < s.length := by omega
    have hnx : (rng (i.toNat + 1)).filter (fun x => s.getD x.toNat false) = q ++ (if s.getD i.toNat false = true then [i] else []) := by
     rw [NJ, Qe0, ← hq, show ((i.toNat : Nat) : Int) = i by omega]
     congr 1
     simp only [List.filter_cons, Qf2]
    refine Ad.mid (fun d => d = (rng (i.toNat + 1)).filter fun x => s.getD x.toNat false) ⟨⟨i0, hi⟩, hi2, ?_⟩ fun d hd => by
     rw [w64 (by omega) (by omega)]; exact ⟨⟨⟨by omega, by omega⟩, by rw [show (i + 1).toNat = i.toNat + 1 by omega]; exact hd⟩, by omega⟩
    refine Ad.mid (fun d => d = (rng (i.toNat + 1)).filter fun x => s.getD x.toNat false) ⟨fun hb => ⟨by simp only [Qa2, Qa5]; omega, ?_⟩, fun hb => ?_⟩ fun _ h => h
    ·rw [hnx, if_pos hb]
    ·rw [hnx, if_neg (by rw [hb]; simp), Qd8]
   ·have hi := of_decide_eq_false hi; show q = _; rw [hq, show i.toNat = g.length by omega]
  ·have hr := (h2 rfl).2 hc; subst hr; exact ⟨fun _ => ⟨0, he, fun h => absurd rfl h, fun _ _ => rfl, fun _ h => absurd h hc⟩, fun hb => absurd hb (by simp)⟩
 ·have hr := h1 hk; subst hr; exact ⟨fun _ => ⟨_, he, fun _ => rfl, fun h => absurd h hk, fun h => absurd h hk⟩, fun hb => absurd hb (by simpa using hk)⟩
def PO (P : Pg) : Prop := ∀ x : List Ai × (Int × Int), Mt x.1 → Fn P AcB C9 x fun (d : Bool × Int) _ => Zn x.1 x.2.1 x.2.2 d
theorem Ab1 (h : Has P Ge) (hC : Ez P) (hA : Jh P) : PO P := by
 rintro ⟨g, a, c⟩ hs; dsimp only at hs; refine Qi h ?_; unfold LF; dsimp only; refine (hC (g, [a, c]) hs (by simp)).to ?_; rintro (r : Int) _ ⟨e, he, h1, h2⟩; dsimp only at he h1 h2
 have hall : (∀ x ∈ [a, c], inR g x) ↔ inR g a ∧ inR g c := by simp
 rw [hall] at h2
 by_cases hk : e = 0
 ·subst hk
  by_cases hc : inR g a ∧ inR g c
  ·have hr := (h2 rfl).1 hc; subst hr; refine ⟨fun hb => absurd hb (by simp), fun _ => ?_⟩; obtain ⟨hn, hv, hpl⟩ := Jo he; refine (hA (g, c) hn hv hpl hc.2).to ?_; rintro (s : List Bool) _ hS; have hS : L0 g [c] s := hS; have hsl := hS.1; have ha := hc.1
   exact ⟨⟨ha.1, by rw [hsl]; exact ha.2⟩, by have := ha.1; have := ha.2; omega, 0, he, fun h => absurd rfl h, fun _ h => absurd hc h, fun _ _ => ⟨Io hS ha, rfl⟩⟩
  ·have hr := (h2 rfl).2 hc; subst hr; exact ⟨fun _ => ⟨0, he, fun h => absurd rfl h, fun _ _ => rfl, fun _ h => absurd h hc⟩, fun hb => absurd hb (by simp)⟩
 ·have hr := h1 hk; subst hr; exact ⟨fun _ => ⟨_, he, fun _ => rfl, fun h => absurd h hk, fun h => absurd h hk⟩, fun hb => absurd hb (by simpa using hk)⟩
def Ld (P : Pg) : Prop := ∀ x : List Int × List Int, x.1.length ≤ 140737488351232 → Fn P zS3 BU x fun (d : Bool) _ => d = true ↔ x.1 = x.2
theorem AdJ (h : Has P Jd) : Ld P := by
 rintro ⟨l, m⟩ hl; refine Vl h ?_; unfold PW; dsimp only at hl ⊢; refine ⟨fun hc => ?_, fun hc => ?_⟩
 ·simp at hc; exact ⟨fun h => (nomatch h), fun h => by rw [h] at hc; exact (hc rfl).elim⟩
 simp at hc
 refine Ad.mid (fun _ => l = m) ?_ fun d hd => ⟨fun _ => hd, fun _ => rfl⟩
 refine AF.of (fun d => 0 ≤ d.2 ∧ d.2 ≤ l.length ∧ ∀ k : Nat, (k : Int) < d.2 → l.getD k 0 = m.getD k 0) (fun d => (l.length - d.2).toNat) ⟨Qa1 _, by dsimp only; omega, fun k hk => by dsimp only at hk; omega⟩ ?_
 rintro ⟨u, k⟩ ⟨k0, k1, hk⟩; dsimp only at k0 k1 hk ⊢; refine ⟨fun hb => Ad.of ?_, fun hb => ?_⟩
 ·have hb := of_decide_eq_true hb; rw [w64 (by omega) (by omega)]; refine ⟨⟨k0, hb⟩, by omega, ⟨k0, by omega⟩, by omega, fun he => ?_, fun he => ?_⟩
  ·simp [-Qa0] at he; exact ⟨fun h => (nomatch h), fun h => by subst h; simp at he⟩
  ·simp [-Qa0] at he; refine ⟨⟨by omega, by omega, fun k' hk' => ?_⟩, by omega⟩
   by_cases e : k' = k.toNat
   ·subst e; exact he
   ·exact hk k' (by omega)
 ·have hb := of_decide_eq_false hb
  exact Vd 0 (by omega) fun i hi => hk i (by omega)
def Lc (P : Pg) : Prop := ∀ x : List Ai × (Int × Int), Mt x.1 → Fn P Acm Dh x fun (d : List Int × Int) _ => E9 x.1 x.2.1 x.2.2 d
def Pu (P : Pg) : Prop := ∀ x : List Ai × List Int, Mt x.1 → x.2.length ≤ 1000000 → Fn P Acn B8 x fun (d : List Int × Int) _ => JR x.1 x.2 d
theorem JP.good {α : Type} {g : List Ai} {ok : Prop} {z : α} {good : α → Prop} {d : α × Int} (h : JP g ok z good d) (h0 : Dt g 0) (hok : ok) : good d.1 ∧ d.2 = 0 := by
 obtain ⟨e, he, _, _, h4⟩ := h; exact h4 (Ju he h0) hok
def gB : List Ai := [([], (0, [])), ([0], (5, [])), ([0], (7, []))]
theorem Afe {c : Int} (h : inR gB c) : c = 0 ∨ c = 1 ∨ c = 2 := by
 have h1 := h.1; have h2 : c < 3 := h.2; omega
theorem TY {c p : Int} (hc : inR gB c) (h : p ∈ A8 gB c) : p = 0 ∧ c ≠ 0 := by
 rcases Afe hc with rfl | rfl | rfl
 ·exact nomatch (show p ∈ ([] : List Int) from h)
 ·exact ⟨List.mem_singleton.1 h, by decide⟩
 ·exact ⟨List.mem_singleton.1 h, by decide⟩
theorem Abr : Dt gB 0 := by
 have hm : ∀ c ∈ gB, c = ([], (0, [])) ∨ c = ([0], (5, [])) ∨ c = ([0], (7, [])) := fun c hc => by simpa [gB] using hc
 have hr : G7 gB := fun c hc j hj => by
  rcases hm c hc with rfl | rfl | rfl
  ·exact absurd hj (by simp)
  ·have : j = 0 := by simpa using hj
   subst this; exact ⟨by decide, by decide⟩
  ·have : j = 0 := by simpa using hj
   subst this; exact ⟨by decide, by decide⟩
 refine Oy ⟨by decide, fun c hc => ?_⟩ hr (AbK (HD hr) (fun x => x) fun c hc p hp => ?_) (fun c hc => ?_) ?_
 ·rcases hm c hc with rfl | rfl | rfl <;> decide
 ·obtain ⟨h1, h2⟩ := TY hc hp; have := hc.1; show p < c; omega
 ·rcases hm c hc with rfl | rfl | rfl <;> decide
 ·exact (ME fun c hc => by rcases hm c hc with rfl | rfl | rfl <;> decide).symm
theorem Abs : Mt gB := fun c hc f hf => by
 have : c.2.2 = [] := by
  have hm : c = ([], (0, [])) ∨ c = ([0], (5, [])) ∨ c = ([0], (7, [])) := by simpa [gB] using hc
  rcases hm with rfl | rfl | rfl <;> rfl
 rw [this] at hf; cases hf
theorem XF {a x : Int} (ha : inR gB a) (h : Rch gB a x) : x = a ∨ x = 0 := by
 cases h with
 | refl => exact .inl rfl
 | step hp t =>
  obtain ⟨rfl, _⟩ := TY ha hp
  cases t with
  | refl => exact .inr rfl
  | step hq _ => exact absurd rfl (TY (c := 0) ⟨by decide, by decide⟩ hq).2
theorem TZ {a : Int} (ha : a = 1 ∨ a = 2) : Rch gB a 0 := by
 rcases ha with rfl | rfl
 ·exact .step (p := 0) (Qb2 _) (.refl 0)
 ·exact .step (p := 0) (Qb2 _) (.refl 0)
def Hl (P : Pg) : Prop := Fn P WZ Cd () fun (d : Bool) _ => d = true
theorem Yo (h : Has P Gi) (hB : Lc P) (hI : Pu P) (hT : Ld P) : Hl P := by
 refine Qm h ?_; unfold LJ
 have i1 : inR gB 1 := ⟨by decide, by decide⟩
 have i2 : inR gB 2 := ⟨by decide, by decide⟩
 have i0 : inR gB 0 := ⟨by decide, by decide⟩
 refine (hB (gB, (1, 2)) Abs).to ?_; rintro (d : List Int × Int) _ hd; obtain ⟨d, e⟩ := d; have hd : E9 gB 1 2 (d, e) := hd; unfold E9 at hd; obtain ⟨⟨L, hL, hd⟩, he⟩ := hd.good Abr ⟨i1, i2⟩; have he : e = 0 := he; subst he
 have hL0 : L = [0] := Jv hL (QE (p := fun x => x = 0) (List.pairwise_singleton _ _) fun x => by
  rw [Qc1]
  exact ⟨fun h => ⟨h ▸ i0, h⟩, fun h => h.2⟩) fun x hx => ⟨fun h => by
   have h1 := XF i1 h.1; have h2 := XF i2 h.2
   omega, fun h => by rw [h]; exact ⟨TZ (.inl rfl), TZ (.inr rfl)⟩⟩
 subst hL0
 have hd0 : d = [0] := Mi hd ⟨fun _ => true, fun x hx => ⟨fun _ => by
  rintro ⟨f, hf, hne, _⟩; rw [Qc1] at hx hf
  exact hne (hf.trans hx.symm), fun _ => rfl⟩, rfl⟩
 subst hd0; refine (hI (gB, [0, 1, 2]) Abs (by decide)).to ?_; rintro (d : List Int × Int) _ hd; obtain ⟨d, e⟩ := d; have hd : JR gB [0, 1, 2] (d, e) := hd; unfold JR at hd
 have hm : ∀ x ∈ ([0, 1, 2] : List Int), inR gB x := fun x hx => by
  have : x = 0 ∨ x = 1 ∨ x = 2 := by simpa using hx
  rcases this with rfl | rfl | rfl <;> assumption
 obtain ⟨⟨L, hL, hd⟩, he⟩ := hd.good Abr hm; have he : e = 0 := he; subst he
 have hL0 : L = [0, 1, 2] := Jv hL (QE (p := fun x => x ∈ ([0, 1, 2] : List Int)) (by decide) fun x => ⟨fun h => ⟨hm x h, h⟩, fun h => h.2⟩) fun x hx => Iff.rfl
 subst hL0
 have hd0 : d = [1, 2] := Mi hd ⟨fun x => decide (x ≠ 0), fun x hx => by
  rw [decide_eq_true_eq]; constructor
  ·rintro h0 ⟨f, hf, hne, hr⟩
   rcases XF (hm f hf) hr with h | h
   ·exact hne h.symm
   ·exact h0 h
  ·rintro h rfl
   exact h ⟨1, by decide, by decide, TZ (.inl rfl)⟩, rfl⟩
 subst hd0; dsimp only; refine ⟨fun _ => ?_, fun hb => absurd hb (by decide)⟩; refine (hT ([0], [0]) (by decide)).to ?_; rintro (d : Bool) _ hd; have hd : d = true := hd.2 rfl; subst hd; refine ⟨fun _ => ?_, fun hb => absurd hb (by decide)⟩; refine (hT ([1, 2], [1, 2]) (by decide)).to ?_; rintro (d : Bool) _ hd; have hd : d = true := hd.2 rfl; subst hd; rfl
theorem Hl.at (h : Hl P) {K : Bool → Unit → Prop} (hk : K true ()) : Fn P WZ Cd () K :=
 Fn.to h fun (d : Bool) _ hd => by
  have hd : d = true := hd; subst hd; exact hk
def up (l : Bs) : List Int := l.map fun b => ((b.toNat : Nat) : Int)
theorem WK {l : List Int} (h : l.Pairwise fun x y => x < y) {i j : Nat} (hij : i < j) (hj : j < l.length) : l.getD i 0 < l.getD j 0 := by
 rw [getD_eq (by omega), getD_eq hj]; exact (List.pairwise_iff_getElem.1 h) i j (by omega) hj hij
theorem Fv.at {g : List Ai} (h : Fv P) (h0 : Dt g 0) {l : List Int} (hl : l.length ≤ 1000000) (hr : ∀ f ∈ l, inR g f) {K : List Bool → Unit → Prop} (hk : ∀ s : List Bool, L0 g l s → K s ()) : Fn P zS2 AO (g, l) K := by
 obtain ⟨hn, hv, hpl⟩ := Jo h0; refine (h (g, l) hn hl hv hpl hr).to ?_; rintro (s : List Bool) _ hs; exact hk s hs
theorem Ld.at (h : Ld P) {l m : List Int} (hl : l.length ≤ 140737488351232) {K : Bool → Unit → Prop} (hk : ∀ d : Bool, (d = true ↔ l = m) → K d ()) : Fn P zS3 BU (l, m) K := by
 refine (h (l, m) hl).to ?_; rintro (d : Bool) _ hd; exact hk d hd
def EK (P : Pg) : Prop := ∀ x : List Ai × List Int, x.1.length ≤ 1000000 → Mt x.1 → x.2.length ≤ 1000000 → Fn P zS4 BD x fun (d : Int) _ => ∃ e, Dt x.1 e ∧ (e ≠ 0 → d = e) ∧ (e = 0 → ((∀ c ∈ x.2, inR x.1 c) → d = 0) ∧ (¬(∀ c ∈ x.2, inR x.1 c) → d = 5))
theorem Uy (h : Has P Gq) (hD : Jk P) : EK P := by
 rintro ⟨g, l⟩ hg hs hl; refine Qt h ?_; unfold LQ; dsimp only at hg hs hl ⊢; refine (hD g hg hs).to ?_; rintro (e : Int) _ he; have he : Dt g e := he; refine ⟨fun hb => ⟨e, he, fun _ => rfl, fun h0 => absurd h0 (by simpa using hb)⟩, fun hb => ?_⟩
 have h0 : e = 0 := by simpa using hb
 refine Ad.mid (fun _ => ∀ c ∈ l, inR g c) ?_ fun _ ha => ⟨e, he, fun k => absurd h0 k, fun _ => ⟨fun _ => rfl, fun k => absurd ha k⟩⟩
 refine AF.of (fun q => (0 ≤ q.2 ∧ q.2 ≤ l.length) ∧ ∀ c ∈ l.take q.2.toNat, inR g c) (fun q => (l.length - q.2).toNat) ⟨⟨Qa1 _, Qa3 _⟩, fun c hc => by simp at hc⟩ ?_; rintro ⟨q, i⟩ ⟨⟨i0, i1⟩, ha⟩; dsimp only at i0 i1 ha ⊢; refine ⟨fun hi => ?_, fun hi => ?_⟩
 ·have hi := of_decide_eq_true hi
  have hi2 : i.toNat < l.length := by omega
  have ho := Uj (l.getD i.toNat 0) g.length
  refine Ad.mid (fun _ => inR g (l.getD i.toNat 0)) ⟨⟨i0, hi⟩, hi2, fun _ => ⟨i0, hi⟩, fun _ => hi2, fun hb => ⟨e, he, fun k => absurd h0 k, fun _ => ⟨fun k => ?_, fun _ => rfl⟩⟩, fun hb => ho.1 hb⟩ fun _ hr => ?_
  ·exact absurd (hb.symm.trans (ho.2 (k _ (Br hi2)))) (by decide)
  ·rw [w64 (by omega) (by omega)]; refine ⟨⟨⟨by omega, by omega⟩, fun c hc => ?_⟩, by omega⟩; rw [show (i + 1).toNat = i.toNat + 1 by omega, FQ (d := 0) hi2] at hc
   rcases List.mem_append.1 hc with hc | hc
   ·exact ha c hc
   ·rw [List.mem_singleton.1 hc]; exact hr
 ·have hi := of_decide_eq_false hi; rw [Qa8 (by omega)] at ha; exact ha
def ZY (s : List Bool) : List Int := (rng s.length).filter fun x => s.getD x.toNat false
def Pv (P : Pg) : Prop := ∀ s : List Bool, s.length ≤ 1000000 → Fn P YC CG s fun (d : List Int) _ => d = ZY s
theorem AdM (h : Has P GW) : Pv P := by
 intro s hs; refine RH h ?_; unfold MS
 refine Ad.mid (fun d => d = (rng s.length).filter fun x => s.getD x.toNat false) ?_ fun d hd => hd
 refine AF.of (fun q => (0 ≤ q.2 ∧ q.2 ≤ s.length) ∧ q.1 = (rng q.2.toNat).filter fun x => s.getD x.toNat false) (fun q => (s.length - q.2).toNat) ⟨⟨Qa1 _, Qa3 _⟩, rfl⟩ ?_; rintro ⟨q, i⟩ ⟨⟨i0, i1⟩, hq⟩; dsimp only at i0 i1 hq ⊢
 have hql : q.length ≤ 1000000 := by rw [hq]; refine Qc0 (Qc4 _ _) ?_; rw [FM]; omega
 refine ⟨fun hi => ?_, fun hi => ?_⟩
 ·have hi := of_decide_eq_true hi
  have hi2 : i.toNat < s.length := by omega
  have hnx : (rng (i.toNat + 1)).filter (fun x => s.getD x.toNat false) = q ++ (if s.getD i.toNat false = true then [i] else []) := by
   rw [NJ, Qe0, ← hq, show ((i.toNat : Nat) : Int) = i by omega]
   congr 1
   simp only [List.filter_cons, Qf2]
  refine Ad.mid (fun d => d = (rng (i.toNat + 1)).filter fun x => s.getD x.toNat false) ⟨⟨i0, hi⟩, hi2, ?_⟩ fun d hd => by
   rw [w64 (by omega) (by omega)]; exact ⟨⟨⟨by omega, by omega⟩, by rw [show (i + 1).toNat = i.toNat + 1 by omega]; exact hd⟩, by omega⟩
  refine Ad.mid (fun d => d = (rng (i.toNat + 1)).filter fun x => s.getD x.toNat false) ⟨fun hb => ⟨by simp only [Qa2, Qa5]; omega, ?_⟩, fun hb => ?_⟩ fun _ h => h
  ·rw [hnx, if_pos hb]
  ·rw [hnx, if_neg (by rw [hb]; simp), Qd8]
 ·have hi := of_decide_eq_false hi; show q = _; rw [hq, show i.toNat = s.length by omega]
theorem Nq {g : List Ai} {s : List Bool} {p : Int → Prop} (hs : s.length = g.length) (h : ∀ x, inR g x → (s.getD x.toNat false = true ↔ p x)) : Ew g p (ZY s) :=
 ⟨fun x => s.getD x.toNat false, h, by unfold ZY; rw [hs]⟩
def MN (P : Pg) : Prop := ∀ x : List Ai × List Bool, Dt x.1 0 → x.2.length = x.1.length → Fn P YD CF x fun (d : List Int) _ => FV x.1 (ZY x.2) d
theorem Ab8 (h : Has P GV) (hL : Pv P) (hRe : Fv P) : MN P := by
 classical
 rintro ⟨g, s⟩ hg0 hs; dsimp only at hg0 hs; refine RG h ?_; unfold MR; dsimp only; obtain ⟨hn, hv, hpl⟩ := Jo hg0; refine (hL s (by omega)).to ?_; rintro (l : List Int) _ hl; have hl : l = ZY s := hl
 have hset := Nq (p := fun x => s.getD x.toNat false = true) hs fun x _ => Iff.rfl
 rw [← hl] at hset ⊢; have hsrt := hset.srt
 have hlr : ∀ x ∈ l, inR g x := fun x hx => (hset.mem.1 hx).1
 have hll : l.length ≤ 1000000 := by have := hset.len; omega
 clear hset hl
 refine Ad.mid (fun d => d = l.filter fun x => decide (¬Cov g l x)) ?_ fun d hd => ⟨fun x => decide (¬Cov g l x), fun x _ => decide_eq_true_iff, hd⟩
 refine AF.of (fun q => (0 ≤ q.2 ∧ q.2 ≤ l.length) ∧ q.1 = (l.take q.2.toNat).filter fun x => decide (¬Cov g l x)) (fun q => (l.length - q.2).toNat) ⟨⟨Qa1 _, Qa3 _⟩, rfl⟩ ?_; rintro ⟨o, i⟩ ⟨⟨i0, i1⟩, ho⟩; dsimp only at i0 i1 ho ⊢
 have hol : o.length ≤ 1000000 := by rw [ho]; refine Qc0 (Qc4 _ _) ?_; rw [Qa9]; omega
 refine ⟨fun hi => ?_, fun hi => ?_⟩
 ·have hi := of_decide_eq_true hi
  have hi2 : i.toNat < l.length := by omega
  have him := Br (d := 0) hi2; have hir := hlr _ him
  have hir2 : (l.getD i.toNat 0).toNat < g.length := by have := hir.1; have := hir.2; omega
  refine Ad.mid (fun q => q = (l.take (i.toNat + 1)).filter fun x => decide (¬Cov g l x)) ?_ fun q hq => by
   rw [w64 (by omega) (by omega)]; exact ⟨⟨⟨by omega, by omega⟩, by rw [show (i + 1).toNat = i.toNat + 1 by omega]; exact hq⟩, by omega⟩
  refine Ad.mid (fun b => b = true ↔ Cov g l (l.getD i.toNat 0)) ?_ fun b hb => ?_
  ·refine AF.of (fun q => (0 ≤ q.2 ∧ q.2 ≤ l.length) ∧ (q.1 = true ↔ Cov g (l.take q.2.toNat) (l.getD i.toNat 0))) (fun q => (l.length - q.2).toNat) ⟨⟨Qa1 _, Qa3 _⟩, ⟨fun k => (nomatch k), by rintro ⟨f, hf, _⟩; simp at hf⟩⟩ ?_
   rintro ⟨b, k⟩ ⟨⟨k0, k1⟩, hb⟩; dsimp only at k0 k1 hb ⊢; refine ⟨fun hk => ?_, fun hk => ?_⟩
   ·have hk := of_decide_eq_true hk
    have hk2 : k.toNat < l.length := by omega
    have hkm := Br (d := 0) hk2
    have hne : k ≠ i → l.getD k.toNat 0 ≠ l.getD i.toNat 0 := fun hne e => by
     rcases Nat.lt_or_gt_of_ne (show i.toNat ≠ k.toNat by omega) with hlt | hlt
     ·have := WK hsrt hlt hk2; omega
     ·have := WK hsrt hlt hi2; omega
    have hnx : Cov g (l.take (k.toNat + 1)) (l.getD i.toNat 0) ↔ b = true ∨ (l.getD k.toNat 0 ≠ l.getD i.toNat 0 ∧ Rch g (l.getD k.toNat 0) (l.getD i.toNat 0)) := by
     rw [hb, FQ (d := 0) hk2]; constructor
     ·rintro ⟨f, hf, h1⟩
      rcases List.mem_append.1 hf with hf | hf
      ·exact .inl ⟨f, hf, h1⟩
      ·rw [List.mem_singleton.1 hf] at h1; exact .inr h1
     ·rintro (⟨f, hf, h1⟩ | h1)
      ·exact ⟨f, Qh9 _ hf, h1⟩
      ·exact ⟨_, Qh4 _ (Qb2 _), h1⟩
    refine Ad.mid (fun d => d = true ↔ Cov g (l.take (k.toNat + 1)) (l.getD i.toNat 0)) ?_ fun d hd => by
     rw [w64 (by omega) (by omega)]; exact ⟨⟨⟨by omega, by omega⟩, by rw [show (k + 1).toNat = k.toNat + 1 by omega]; exact hd⟩, by omega⟩
    rw [hnx]
    refine Ad.mid (fun d => d = true ↔ b = true ∨ (l.getD k.toNat 0 ≠ l.getD i.toNat 0 ∧ Rch g (l.getD k.toNat 0) (l.getD i.toNat 0))) ⟨fun hb1 => ?_, fun hb1 => ⟨fun hki => ?_, fun hki => ?_⟩⟩ fun _ h => h
    ·have hh : (cond true true false) = true ↔ b = true ∨ (l.getD k.toNat 0 ≠ l.getD i.toNat 0 ∧ Rch g (l.getD k.toNat 0) (l.getD i.toNat 0)) := ⟨fun _ => .inl hb1, fun _ => rfl⟩
     (repeat' apply And.intro) <;> first | exact True.intro | exact hh
    ·have hki : k ≠ i := by simpa using hki
     have key : ∀ s : List Bool, L0 g [l.getD k.toNat 0] s → (0 ≤ l.getD i.toNat 0 ∧ l.getD i.toNat 0 < ((s.length : Nat) : Int)) ∧ (l.getD i.toNat 0).toNat < s.length ∧ ((cond false true (cond true (s.getD (l.getD i.toNat 0).toNat false) false)) = true ↔ b = true ∨ (l.getD k.toNat 0 ≠ l.getD i.toNat 0 ∧ Rch g (l.getD k.toNat 0) (l.getD i.toNat 0))) ∧ True := fun s hs => by
      refine ⟨⟨hir.1, by rw [hs.1]; exact hir.2⟩, by rw [hs.1]; exact hir2, ?_, True.intro⟩
      rw [cond_false, cond_true, Io hs hir]; exact ⟨fun h => .inr ⟨hne hki, h⟩, fun h => h.elim (fun h => by rw [hb1] at h; cases h) fun h => h.2⟩
     have hone : ∀ f ∈ [l.getD k.toNat 0], inR g f := fun f hf => by rw [List.mem_singleton.1 hf]; exact hlr _ hkm
     refine ⟨⟨k0, hk⟩, hk2, ⟨i0, hi⟩, ?_⟩
     repeat' apply And.intro
     all_goals first | exact True.intro | exact hi2 | exact hRe.at hg0 (by simp) hone fun s hs => ⟨hi2, key s hs⟩ | exact hRe.at hg0 (by simp) hone fun s hs => key s hs
    ·have hki : k = i := by simpa using hki
     have hh : (cond false true (cond false false false)) = true ↔ b = true ∨ (l.getD k.toNat 0 ≠ l.getD i.toNat 0 ∧ Rch g (l.getD k.toNat 0) (l.getD i.toNat 0)) := ⟨fun h => (nomatch h), fun h => by
      rcases h with h | h
      ·rw [hb1] at h; cases h
      ·rw [hki] at h; exact absurd rfl h.1⟩
     (repeat' apply And.intro) <;> first | exact True.intro | exact hh
   ·have hk := of_decide_eq_false hk; rw [Qa8 (by omega)] at hb; exact hb
  ·refine Ad.mid (fun q => q = (l.take (i.toNat + 1)).filter fun x => decide (¬Cov g l x)) ⟨fun hb1 => ⟨⟨i0, hi⟩, hi2, by simp only [Qa2, Qa5]; omega, ?_⟩, fun hb1 => ?_⟩ fun _ h => h
   ·have hb1 : b = false := Qg5 (show (!_) = (!false) from hb1)
    have hno : ¬Cov g l (l.getD i.toNat 0) := fun k => by rw [hb.2 k] at hb1; cases hb1
    rw [FQ (d := 0) hi2, Qe0, ← ho, Qd0 (by simpa using hno), Qf2]
   ·have hb1 : b = true := Qg5 (show (!_) = (!true) from hb1); rw [FQ (d := 0) hi2, Qe0, ← ho, Qd1 (by simpa using hb.1 hb1), Qf2, Qd8]
 ·have hi := of_decide_eq_false hi; show o = _; rw [ho, Qa8 (by omega)]
def Kc (P : Pg) : Prop := ∀ x : List Ai × Int, x.1.length ≤ 1000000 → Mt x.1 → Fn P AcA Cb x fun (d : List Int × Int) _ => LZ x.1 x.2 d
theorem TD {α : Type} {g : List Ai} {ok : Prop} {z : α} {good : α → Prop} {r e : Int} (he : Dt g e) (h1 : e ≠ 0 → r = e) (h2 : e = 0 → (ok → r = 0) ∧ (¬ok → r = 5)) :
  ((r != 0) = true → JP g ok z good (z, r)) ∧ ((r != 0) = false → Dt g 0 ∧ ok ∧ ∀ d : α, good d → JP g ok z good (d, 0)) := by
 by_cases hk : e = 0
 ·subst hk
  by_cases hc : ok
  ·have hr := (h2 rfl).1 hc; subst hr; exact ⟨fun hb => absurd hb (by decide), fun _ => ⟨he, hc, fun d hd => ⟨0, he, fun h => absurd rfl h, fun _ h => absurd hc h, fun _ _ => ⟨hd, rfl⟩⟩⟩⟩
  ·have hr := (h2 rfl).2 hc; subst hr; exact ⟨fun _ => ⟨0, he, fun h => absurd rfl h, fun _ _ => rfl, fun _ h => absurd h hc⟩, fun hb => absurd hb (by decide)⟩
 ·have hr := h1 hk; subst hr; exact ⟨fun _ => ⟨_, he, fun _ => rfl, fun h => absurd h hk, fun h => absurd h hk⟩, fun hb => absurd hb (by simpa using hk)⟩
theorem WH (h : Has P Eu) (hC : EK P) (hRe : Fv P) (hL : Pv P) : Kc P := by
 rintro ⟨g, c⟩ hg hs; dsimp only at hg hs; refine Mf h ?_; unfold H5; dsimp only; refine (hC (g, [c]) hg hs (by simp)).to ?_; rintro (r : Int) _ ⟨e, he, h1, h2⟩; dsimp only at he h1 h2
 have hall : (∀ x ∈ [c], inR g x) ↔ inR g c := ⟨fun k => k c (Qb2 _), fun k x hx => by rw [List.mem_singleton.1 hx]; exact k⟩
 rw [hall] at h2; obtain ⟨k1, k2⟩ := TD (z := ([] : List Int)) (good := Ew g (Rch g c)) he h1 h2; refine ⟨k1, fun hb => ?_⟩; obtain ⟨hg0, hc, hd⟩ := k2 hb
 refine hRe.at hg0 (by simp) (hall.2 hc) fun s hS => ?_
 refine (hL s (by rw [hS.1]; exact hg)).to ?_
 rintro (d : List Int) _ hdl; have hdl : d = ZY s := hdl; refine hd d ?_; rw [hdl]
 exact Nq hS.1 fun x hx => Io hS hx
def NY (P : Pg) : Prop := ∀ x : List Ai × (Int × Int), x.1.length ≤ 1000000 → Mt x.1 → Fn P AcC Ey x fun (d : Bool × Int) _ => Zn x.1 x.2.1 x.2.2 d
theorem Aaj (h : Has P Jg) (hC : EK P) (hRe : Fv P) : NY P := by
 rintro ⟨g, a, c⟩ hg hs; dsimp only at hg hs; refine Vo h ?_; unfold PZ; dsimp only; refine (hC (g, [a, c]) hg hs (by simp)).to ?_; rintro (r : Int) _ ⟨e, he, h1, h2⟩; dsimp only at he h1 h2
 have hall : (∀ x ∈ [a, c], inR g x) ↔ inR g a ∧ inR g c := by simp
 rw [hall] at h2; obtain ⟨k1, k2⟩ := TD (z := false) (good := fun b => b = true ↔ Rch g c a) he h1 h2; refine ⟨k1, fun hb => ?_⟩; obtain ⟨hg0, hc, hd⟩ := k2 hb; have ha := hc.1
 refine hRe.at hg0 (by simp) (fun f hf => by rw [List.mem_singleton.1 hf]; exact hc.2) fun s hS => ?_
 exact ⟨⟨ha.1, by rw [hS.1]; exact ha.2⟩, by rw [hS.1]; have := ha.1; have := ha.2; omega, hd _ (Io hS ha)⟩
def NZ (P : Pg) : Prop := ∀ x : List Ai × (Int × Int), x.1.length ≤ 1000000 → Mt x.1 → Fn P AcD Df x fun (d : List Int × Int) _ => E9 x.1 x.2.1 x.2.2 d
theorem Aak (h : Has P Gp) (hC : EK P) (hRe : Fv P) (hBe : MN P) : NZ P := by
 rintro ⟨g, a, b⟩ hg hs; dsimp only at hg hs; refine Qs h ?_; unfold LP; dsimp only; refine (hC (g, [a, b]) hg hs (by simp)).to ?_; rintro (r : Int) _ ⟨e, he, h1, h2⟩; dsimp only at he h1 h2
 have hall : (∀ x ∈ [a, b], inR g x) ↔ inR g a ∧ inR g b := by simp
 rw [hall] at h2; obtain ⟨k1, k2⟩ := TD (z := ([] : List Int)) (good := fun d => ∃ L, Ew g (fun x => Rch g a x ∧ Rch g b x) L ∧ FV g L d) he h1 h2; refine ⟨k1, fun hb => ?_⟩; obtain ⟨hg0, hc, hd⟩ := k2 hb
 refine hRe.at hg0 (by simp) (fun f hf => by rw [List.mem_singleton.1 hf]; exact hc.1) fun x hx => ?_
 refine hRe.at hg0 (by simp) (fun f hf => by rw [List.mem_singleton.1 hf]; exact hc.2) fun y hy => ?_
 have hxl := hx.1; have hyl := hy.1; refine Ad.mid (fun s => s.length = g.length ∧ ∀ x, inR g x → (s.getD x.toNat false = true ↔ Rch g a x ∧ Rch g b x)) ?_ ?_
 ·refine AF.of (fun q => (0 ≤ q.2 ∧ q.2 ≤ g.length) ∧ q.1.length = g.length ∧ (∀ z, inR g z → z < q.2 → (q.1.getD z.toNat false = true ↔ Rch g a z ∧ Rch g b z)) ∧ ∀ z, inR g z → q.2 ≤ z → (q.1.getD z.toNat false = true ↔ Rch g a z)) (fun q => (g.length - q.2).toNat) ⟨⟨Qa1 _, Qa3 _⟩, hxl, fun z hz h0 => absurd h0 (by have := hz.1; dsimp only; omega), fun z hz _ => Io hx hz⟩ ?_
  rintro ⟨s, i⟩ ⟨⟨i0, i1⟩, hsl, ha, hbb⟩; dsimp only at i0 i1 hsl ha hbb ⊢; refine ⟨fun hi => ?_, fun hi => ?_⟩
  ·have hi := of_decide_eq_true hi
   have hir : inR g i := ⟨i0, hi⟩
   have hi2 : i.toNat < s.length := by omega
   have hi3 : i < ((s.length : Nat) : Int) := by omega
   refine Ad.mid (fun t => t = s.set i.toNat (cond (s.getD i.toNat false) (y.getD i.toNat false) false)) ⟨⟨i0, hi3⟩, hi2, fun _ => ⟨i0, by omega⟩, fun _ => by omega, ⟨i0, hi3⟩, hi2, rfl⟩ ?_; rintro t rfl; rw [w64 (by omega) (by omega)]; refine ⟨⟨⟨by omega, by omega⟩, by rw [Qb1]; exact hsl, fun z hz hlt => ?_, fun z hz hge => ?_⟩, by omega⟩
   ·rw [E4 hi2]; split
    ·rename_i e
     have e : z = i := by have := hz.1; omega
     subst e; have h3 := hbb z hz (Qa1 _); have h4 := Io hy hz
     cases h5 : s.getD z.toNat false with
     | false =>
      rw [cond_false]; rw [h5] at h3; exact ⟨fun k => (nomatch k), fun k => by have := h3.2 k.1; cases this⟩
     | true =>
      rw [cond_true, h4]; exact ⟨fun k => ⟨h3.1 h5, k⟩, fun k => k.2⟩
    ·exact ha z hz (by have := hz.1; omega)
   ·rw [E4 hi2, if_neg (by have := hz.1; omega)]
    exact hbb z hz (by omega)
  ·have hi := of_decide_eq_false hi; exact ⟨hsl, fun z hz => ha z hz (by have := hz.2; omega)⟩
 ·rintro s ⟨hsl, hsm⟩; refine (hBe (g, s) hg0 hsl).to ?_; rintro (d : List Int) _ hdi; exact hd d ⟨_, Nq hsl hsm, hdi⟩
def Ty (P : Pg) : Prop := ∀ x : List Ai × List Int, x.1.length ≤ 1000000 → Mt x.1 → x.2.length ≤ 1000000 → Fn P AcE BN x fun (d : List Int × Int) _ => JR x.1 x.2 d
theorem AdL (h : Has P DO) (hC : EK P) (hBe : MN P) : Ty P := by
 rintro ⟨g, l⟩ hg hs hl; dsimp only at hg hs hl; refine Kn h ?_; unfold GO; dsimp only; refine (hC (g, l) hg hs hl).to ?_; rintro (r : Int) _ ⟨e, he, h1, h2⟩; dsimp only at he h1 h2; obtain ⟨k1, k2⟩ := TD (z := ([] : List Int)) (good := fun d => ∃ L, Ew g (fun x => x ∈ l) L ∧ FV g L d) he h1 h2; refine ⟨k1, fun hb => ?_⟩; obtain ⟨hg0, hc, hd⟩ := k2 hb
 refine ⟨⟨Qa3 _, Qa1 _, by omega⟩, ?_⟩; refine Ad.mid (fun s => s.length = g.length ∧ ∀ x, inR g x → (inS s x ↔ x ∈ l)) ?_ ?_
 ·refine AF.of (fun q => (0 ≤ q.2 ∧ q.2 ≤ l.length) ∧ q.1.length = g.length ∧ ∀ x, inR g x → (inS q.1 x ↔ x ∈ l.take q.2.toNat)) (fun q => (l.length - q.2).toNat) ⟨⟨Qa1 _, Qa3 _⟩, by simp, fun x hx => ⟨fun k => (by
   have hll := XN k; unfold inS at k; rw [EC (by simpa using hll)] at k
   cases k), fun k => (by simp at k)⟩⟩ ?_
  rintro ⟨s, i⟩ ⟨⟨i0, i1⟩, hsl, hm⟩; dsimp only at i0 i1 hsl hm ⊢; refine ⟨fun hi => ?_, fun hi => ?_⟩
  ·have hi := of_decide_eq_true hi
   have hi2 : i.toNat < l.length := by omega
   have hr := hc _ (Br (d := 0) hi2)
   have hr2 : (l.getD i.toNat 0).toNat < s.length := by have := hr.1; have := hr.2; omega
   refine Ad.mid (fun t => t = s.set (l.getD i.toNat 0).toNat true) ⟨⟨i0, hi⟩, hi2, ⟨hr.1, by have := hr.2; omega⟩, hr2, rfl⟩ ?_
   rintro t rfl; rw [w64 (by omega) (by omega)]; refine ⟨⟨⟨by omega, by omega⟩, by rw [Qb1]; exact hsl, fun x hx => ?_⟩, by omega⟩
   rw [Ga hr2 hr.1 hx.1, show (i + 1).toNat = i.toNat + 1 by omega, FQ (d := 0) hi2, Qg9, Qc1, hm x hx]; exact or_comm
  ·have hi := of_decide_eq_false hi; refine ⟨hsl, fun x hx => ?_⟩; rw [hm x hx, Qa8 (by omega)]
 ·rintro s ⟨hsl, hsm⟩; refine (hBe (g, s) hg0 hsl).to ?_; rintro (d : List Int) _ hdi; exact hd d ⟨_, Nq hsl hsm, hdi⟩
theorem N5 {g : List Ai} {p q : Int → Prop} {ok : Prop} {good : List Int → Prop} {d : List Int × Int} (h : JP g ok [] good d) (hg : ∀ x, good x → x.length ≤ g.length) : d.1.length ≤ g.length := by
 obtain ⟨e, he, h1, h2, h3⟩ := h
 by_cases hk : e = 0
 ·by_cases hc : ok
  ·exact hg _ (h3 hk hc).1
  ·rw [h2 hk hc]; exact Qd7 _
 ·rw [h1 hk]; exact Qd7 _
theorem Zk {g : List Ai} {p : Int → Prop} {d : List Int} (h : ∃ L, Ew g p L ∧ FV g L d) : d.length ≤ g.length := by
 obtain ⟨L, hL, hd⟩ := h; exact Qc0 hd.sub.length_le hL.len
theorem Ms (h : Has P CV) (hG : PS P) (hM : Jj P) (hA : L4 P) (hRA : Kc P) (hIs : PO P) (hRIs : NY P) (hB : Lc P) (hRB : NZ P) (hI : Pu P) (hRI : Ty P) (hT : Ld P) (hAw : Hl P) (x : List Int × (Int × (Int × (List Int × Bool)))) :
  Fn P Ae3 A2 x fun (d : Bool) _ => d = true := by
 obtain ⟨raw, a, b, l, fit⟩ := x; refine Ij h ?_; unfold Fh; dsimp only; refine ⟨fun _ => hAw.at rfl, fun hb => ?_⟩; have hl6 := of_decide_eq_false hb; refine (hG (raw, (9, 1)) ⟨show (0 : Int) ≤ 9 by decide, show (9 : Int) ≤ 9 by decide⟩ ⟨show (0 : Int) ≤ 1 by decide, show (1 : Int) ≤ 2 by decide⟩).to ?_; rintro (g : List Ai) _ hg; have hg : AaD 9 g := hg; obtain ⟨hgl, hg0, hgs, hgT⟩ := hg
 refine ⟨by simp only [Qa5]; omega, ?_⟩
 rw [List.nil_append]; refine Ad.mid (fun q => q.2.2.length = l.length) ⟨fun hb => ?_, fun _ => rfl⟩ ?_
 ·have hpos := of_decide_eq_true (Qb hb).2; refine hM.at (by omega) (by omega) (hM.at (by omega) (by omega) ?_)
  refine Ad.mid (fun m => m.length = l.length) ?_ fun _ h => h
  refine AF.of (fun q => (0 ≤ q.2 ∧ q.2 ≤ l.length) ∧ q.1.length = l.length) (fun q => (l.length - q.2).toNat) ⟨⟨Qa1 _, Qa3 _⟩, rfl⟩ ?_; rintro ⟨m, i⟩ ⟨⟨i0, i1⟩, hm⟩; dsimp only at i0 i1 hm ⊢; refine ⟨fun hi => ?_, fun _ => hm⟩; have hi := of_decide_eq_true hi
  have hi2 : i.toNat < m.length := by omega
  refine Ad.mid (fun t => t.length = l.length) ⟨⟨i0, hi⟩, hi2, hM.at (by omega) (by omega) ⟨⟨i0, hi⟩, hi2, (Qb1 ..).trans hm⟩⟩ fun t ht => by
   rw [w64 (by omega) (by omega)]; exact ⟨⟨⟨by omega, by omega⟩, ht⟩, by omega⟩
 rintro ⟨a, b, m⟩ hml; have hml : m.length = l.length := hml; dsimp only
 have hg6 : g.length ≤ 1000000 := by omega
 refine (hA (g, a) hgs).to ?_; rintro (d1 : List Int × Int) _ h1; have h1 : LZ g a d1 := h1; refine (hRA (g, a) hg6 hgs).to ?_; rintro (d1' : List Int × Int) _ h1'; have e1 : d1 = d1' := UO h1 h1'; subst e1; clear h1'; refine (hIs (g, (a, b)) hgs).to ?_; rintro (d2 : Bool × Int) _ h2; refine (hRIs (g, (a, b)) hg6 hgs).to ?_; rintro (d2' : Bool × Int) _ h2'
 have e2 : d2 = d2' := ZP (show Zn g a b d2 from h2) h2'; subst e2; clear h2 h2'; refine (hB (g, (a, b)) hgs).to ?_; rintro (d3 : List Int × Int) _ h3; have h3 : E9 g a b d3 := h3; refine (hRB (g, (a, b)) hg6 hgs).to ?_; rintro (d3' : List Int × Int) _ h3'; have e3 : d3 = d3' := TH h3 h3'; subst e3; clear h3'; refine (hI (g, m) hgs (by dsimp only; omega)).to ?_
 rintro (d4 : List Int × Int) _ h4; have h4 : JR g m d4 := h4; refine (hRI (g, m) hg6 hgs (by dsimp only; omega)).to ?_
 rintro (d4' : List Int × Int) _ h4'; have e4 : d4 = d4' := XO h4 h4'; subst e4; clear h4'; unfold LZ at h1; unfold E9 at h3; unfold JR at h4
 have l1 := N5 (p := fun _ => True) (q := fun _ => True) h1 fun x hx => hx.len
 have l3 := N5 (p := fun _ => True) (q := fun _ => True) h3 fun x hx => Zk hx
 have l4 := N5 (p := fun _ => True) (q := fun _ => True) h4 fun x hx => Zk hx
 refine hT.at (by omega) fun d hd => ?_
 have hd : d = true := hd.2 rfl; subst hd; simp only [beq_self_eq_true, cond_true]; refine Ad.mid (fun d => d = true) ⟨fun _ => hT.at (by omega) fun d hd => hd.2 rfl, fun hb => absurd hb (by decide), trivial⟩ ?_; rintro d rfl; simp only [cond_true]; refine Ad.mid (fun d => d = true) ⟨fun _ => hT.at (by omega) fun d hd => hd.2 rfl, fun hb => absurd hb (by decide), trivial⟩ ?_; rintro d rfl
 simp only [cond_true]; refine Ad.mid (fun d => d = true) ⟨fun _ => hAw.at rfl, fun hb => absurd hb (by decide), trivial⟩ ?_; rintro d rfl; rfl
end Go.VS
