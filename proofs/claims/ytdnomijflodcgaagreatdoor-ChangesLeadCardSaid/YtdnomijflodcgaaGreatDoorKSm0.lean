import Derived.Test.YtdnomijflodcgaaGreatDoorFwD
import Derived.IntWalk
import Derived.Test.YtdnomijflodcgaaGreatDoorKGf0
import Derived.Test.YtdnomijflodcgaaGreatDoorKGf1
/- Rules for lifted functions; numbers; lists. -/
set_option linter.unusedVariables false
set_option linter.unusedSimpArgs false
namespace Go.VS
theorem Ad.of {D : Type} {body : (D → Prop) → Prop} {rest : D → Prop} (h : body rest) : Ad body rest := ⟨rest, h, fun _ h => h⟩
theorem Ad.mid {D : Type} {body : (D → Prop) → Prop} {rest : D → Prop} (J : D → Prop) (h : body J) (h2 : ∀ d, J d → rest d) : Ad body rest := ⟨J, h, h2⟩
theorem AF.of {D : Type} {x : D} {body : D → (D → Prop) → Prop} (I : D → Prop) (m : D → Nat) (h0 : I x) (hs : ∀ d, I d → body d fun d' => I d' ∧ m d' < m d) : AF x body := by
 refine ⟨fun n d => I d ∧ m d = n, ⟨_, h0, rfl⟩, ?_⟩
 rintro n d ⟨hI, rfl⟩
 have : (fun d' => ∃ k, k < m d ∧ I d' ∧ m d' = k) = fun d' => I d' ∧ m d' < m d := by
  funext d'
  exact propext ⟨fun ⟨k, h1, h2, h3⟩ => ⟨h2, by omega⟩, fun ⟨h1, h2⟩ => ⟨_, h2, h1, rfl⟩⟩
 rw [this]
 exact hs d hI
theorem Fn.to {P : Pg} {nm : String} {S : Sig} {x : DP S.ps} {K K' : DP S.rs → DP (ptrs S.ps) → Prop} (h : Fn P nm S x K) (hk : ∀ d e, K d e → K' d e) : Fn P nm S x K' := h.mono hk
theorem w64 {n : Int} (h1 : -9223372036854775808 ≤ n) (h2 : n ≤ 9223372036854775807) : IntKind.i64.wrap n = n := by rw [IntKind.wrap_i64]; omega
theorem AfH {n : Int} (h1 : 0 ≤ n) (h2 : n ≤ 18446744073709551615) : IntKind.u64.wrap n = n := by rw [IntKind.wrap_u64]; omega
theorem getD_eq {α : Type} {l : List α} {i : Nat} {d : α} (h : i < l.length) : l.getD i d = l[i] := by simp [List.getD_eq_getElem?_getD, List.getElem?_eq_getElem h]
theorem Br {α : Type} {l : List α} {i : Nat} {d : α} (h : i < l.length) : l.getD i d ∈ l := by rw [getD_eq h]; exact List.getElem_mem h
theorem E4 {α : Type} {l : List α} {i j : Nat} {x d : α} (h : i < l.length) : (l.set i x).getD j d = if i = j then x else l.getD j d := by
 simp only [List.getD_eq_getElem?_getD, List.getElem?_set]
 split
 ·rename_i e; subst e; simp [h]
 ·rfl
theorem Oo {α : Type} {l m : List α} {i : Nat} {d : α} (h : i < l.length) : (l ++ m).getD i d = l.getD i d := by
 simp [List.getD_eq_getElem?_getD, List.getElem?_append_left h]
theorem Qz {α : Type} {l : List α} {x d : α} : (l ++ [x]).getD l.length d = x := by
 simp [List.getD_eq_getElem?_getD]
theorem EC {α : Type} {n i : Nat} {x d : α} (h : i < n) : (List.replicate n x).getD i d = x := by
 simp [List.getD_eq_getElem?_getD, h]
theorem Vd {α : Type} (d : α) {l m : List α} (h : l.length = m.length) (hi : ∀ i, i < l.length → l.getD i d = m.getD i d) : l = m := by
 refine List.ext_getElem h fun i h1 h2 => ?_
 have := hi i h1
 rwa [getD_eq h1, getD_eq h2] at this
end Go.VS

/- A number brought into a range. -/
set_option linter.unusedVariables false
set_option linter.unusedSimpArgs false
namespace Go.VS
variable {P : Pg}
@[irreducible] def F8 (a n : Int) : Int := IntKind.i64.wrap (Int.tmod (IntKind.u64.wrap a) (IntKind.u64.wrap n))
theorem Tt (n : Int) : 0 ≤ IntKind.u64.wrap n ∧ IntKind.u64.wrap n ≤ 18446744073709551615 := by rw [IntKind.wrap_u64]; omega
theorem EE {a n : Int} (h1 : 1 ≤ n) (h2 : n ≤ 9223372036854775807) : 0 ≤ F8 a n ∧ F8 a n < n := by
 unfold F8
 rw [AfH (n := n) (by omega) (by omega)]
 have h := Tt a
 rw [Int.tmod_eq_emod_of_nonneg h.1]
 have e1 := Int.emod_nonneg (IntKind.u64.wrap a) (show n ≠ 0 by omega)
 have e2 := Int.emod_lt_of_pos (IntKind.u64.wrap a) (show 0 < n by omega)
 rw [w64 (by omega) (by omega)]
 exact ⟨e1, e2⟩
def Jj (P : Pg) : Prop := ∀ x : Int × Int, 1 ≤ x.2 → x.2 ≤ 9223372036854775807 → Fn P zS1 Bt x fun d _ => d = F8 x.1 x.2
theorem AeS (h : Has P Lb) : Jj P := by
 intro x h1 h2
 refine XD h ?_
 unfold Sn
 exact ⟨by rw [AfH (by omega) (by omega)]; omega, by unfold F8; rfl⟩
theorem Jj.at (h : Jj P) {a n : Int} (h1 : 1 ≤ n) (h2 : n ≤ 9223372036854775807) {K : Int → Unit → Prop} (hk : K (F8 a n) ()) : Fn P zS1 Bt (a, n) K := (h (a, n) h1 h2).to fun (d : Int) e hd => by
 have hd : d = F8 a n := hd
 subst hd; exact hk
end Go.VS

/- Numbers in texts; bytes. -/
set_option linter.unusedVariables false
set_option linter.unusedSimpArgs false
namespace Go.VS
variable {P : Pg}
abbrev Bs := List UInt8
end Go.VS

/- Paths: names between separators. -/
set_option linter.unusedVariables false
set_option linter.unusedSimpArgs false
namespace Go.VS
variable {P : Pg}
def spN (acc : Bs) : Bs → List Bs
 | [] => [acc]
 | b :: r => if b = 47 then acc :: spN [] r else spN (acc ++ [b]) r
def FD (n : Bs) : Bool := !(n == [] || n == [46] || n == [46, 46])
def CD (s : Bs) : Int := if s.length > 200 ∨ (0 : UInt8) ∈ s then 210 else if (spN [] s).all FD then 0 else 210
def Fu (P : Pg) : Prop := ∀ s : Bs, s.length ≤ 140737488351232 → Fn P Acr DR s fun (d : Int) _ => d = CD s
theorem WD : ∀ (l acc r : Bs), (∀ b ∈ l, b ≠ 47) → spN acc (l ++ 47 :: r) = (acc ++ l) :: spN [] r
 | [], acc, r, h => by rw [List.nil_append, spN, if_pos rfl]; simp
 | b :: l, acc, r, h => by
  rw [List.cons_append, spN, if_neg (h b (List.mem_cons_self ..)), WD l _ r fun c hc => h c (List.mem_cons_of_mem _ hc)]
  simp
theorem Ab0 : ∀ (l acc : Bs), (∀ b ∈ l, b ≠ 47) → spN acc l = [acc ++ l]
 | [], acc, h => by simp [spN]
 | b :: l, acc, h => by
  rw [spN, if_neg (h b (List.mem_cons_self ..)), Ab0 l _ fun c hc => h c (List.mem_cons_of_mem _ hc)]
  simp
theorem Ad1 : ∀ s : Bs, (∀ b ∈ s, b ≠ 47) ∨ ∃ l r, s = l ++ 47 :: r ∧ ∀ b ∈ l, b ≠ 47
 | [] => .inl (by simp)
 | b :: s => by
  by_cases hb : b = 47
  ·subst hb; exact .inr ⟨[], s, rfl, by simp⟩
  ·rcases Ad1 s with h | ⟨l, r, rfl, h⟩
   ·refine .inl fun c hc => ?_
    rcases List.mem_cons.1 hc with rfl | hc
    ·exact hb
    ·exact h c hc
   ·refine .inr ⟨b :: l, r, rfl, fun c hc => ?_⟩
    rcases List.mem_cons.1 hc with rfl | hc
    ·exact hb
    ·exact h c hc
end Go.VS

/- Trees of files: in order, and none under another. -/
set_option linter.unusedVariables false
set_option linter.unusedSimpArgs false
namespace Go.VS
variable {P : Pg}
abbrev Bh := Bs × Bs
def D0 : List Bh → Bs → Option Bs
 | [], _ => none
 | f :: r, p => match D0 r p with
  | some v => some v
  | none => if p = f.1 then some f.2 else none
def Y5 (l : List Bh) (p : Bs) : Bool := (List.range p.length).any fun i => (D0 l (p.take i)).isSome && (p.getD i 0 == 47)
def QT (l : List Bh) : Bool := (List.range l.length).all fun i => (i == 0 || Op.bytesLess (l.getD (i - 1) ([], [])).1 (l.getD i ([], [])).1) && !Y5 l (l.getD i ([], [])).1
def L7 (P : Pg) : Prop := ∀ l : List Bh, l.length ≤ 1000000 → (∀ f ∈ l, f.1.length ≤ 140737488351232 ∧ f.2.length ≤ 140737488351232) → Fn P "mergelens/tree.ordered" Ft l fun (d : Bool) _ => d = QT l
end Go.VS

/- The document's reader of paths. -/
set_option linter.unusedVariables false
set_option linter.unusedSimpArgs false
namespace Go.VS
variable {P : Pg}
theorem Sy {s : Bs} {i : Nat} (h : i < s.length) : s.drop i = s.getD i 0 :: s.drop (i + 1) := by
 rw [List.drop_eq_getElem_cons h, List.getD_eq_getElem?_getD, List.getElem?_eq_getElem h, Option.getD_some]
theorem byI (b c : UInt8) : (((b.toNat : Nat) : Int) == ((c.toNat : Nat) : Int)) = (b == c) := by
 by_cases h : b = c
 ·subst h; simp
 ·rw [show (b == c) = false from beq_eq_false_iff_ne.2 h, beq_eq_false_iff_ne]
  intro e
  exact h (UInt8.toNat_inj.1 (by omega))
theorem Afb (b : UInt8) : (((b.toNat : Nat) : Int) == (47 : Int)) = (b == 47) := byI b 47
theorem Fu.at (h : Fu P) {s : Bs} (hs : s.length ≤ 140737488351232) {K : Int → Unit → Prop} (hk : K (CD s) ()) : Fn P Acr DR s K :=
 (h s hs).to fun (d : Int) _ hd => by
  have hd : d = CD s := hd
  subst hd
  exact hk
end Go.VS

/- Numbers made of raw numbers; sets of bytes. -/
set_option linter.unusedVariables false
set_option linter.unusedSimpArgs false
namespace Go.VS
variable {P : Pg}
@[irreducible] def atX (raw : List Int) (k : Int) : Int :=
 if ((List.length raw : Nat) : Int) > 0 then (IntKind.u64.wrap ((BitVec.toNat (BitVec.ofInt IntKind.u64.bits (IntKind.u64.wrap ((IntKind.u64.wrap (IntKind.i64.wrap (k + (1 : Int)))) * (11400714819323198485 : Int))) ^^^ BitVec.ofInt IntKind.u64.bits (IntKind.u64.wrap (List.getD raw (Int.toNat (Int.tmod k ((List.length raw : Nat) : Int))) (0 : Int)))) : Nat) : Int))
 else (IntKind.u64.wrap ((IntKind.u64.wrap (IntKind.i64.wrap (k + (1 : Int)))) * (11400714819323198485 : Int)))
@[irreducible] def atY (d2 : Int) : Int := IntKind.u64.wrap ((BitVec.toNat (BitVec.ofInt IntKind.u64.bits (IntKind.u64.wrap ((IntKind.u64.wrap ((BitVec.toNat (BitVec.ofInt IntKind.u64.bits d2 ^^^ BitVec.ofInt IntKind.u64.bits (Int.fdiv d2 (2 ^ (min (Int.toNat (31 : Int)) IntKind.u64.bits)))) : Nat) : Int)) * (13787848793156543929 : Int))) ^^^ BitVec.ofInt IntKind.u64.bits (Int.fdiv (IntKind.u64.wrap ((IntKind.u64.wrap ((BitVec.toNat (BitVec.ofInt IntKind.u64.bits d2 ^^^ BitVec.ofInt IntKind.u64.bits (Int.fdiv d2 (2 ^ (min (Int.toNat (31 : Int)) IntKind.u64.bits)))) : Nat) : Int)) * (13787848793156543929 : Int))) (2 ^ (min (Int.toNat (29 : Int)) IntKind.u64.bits)))) : Nat) : Int)
@[irreducible] def atF (raw : List Int) (k : Int) : Int := IntKind.i64.wrap (Int.fdiv (atY (atX raw k)) (2 ^ (min (Int.toNat (1 : Int)) IntKind.u64.bits)))
theorem Zq (raw : List Int) (k : Int) : 0 ≤ atF raw k ∧ atF raw k ≤ 9223372036854775807 := by
 unfold atF
 have e : ((2 : Int) ^ (min (Int.toNat (1 : Int)) IntKind.u64.bits)) = 2 := by decide
 rw [e]
 have h := Tt ((BitVec.toNat (BitVec.ofInt IntKind.u64.bits (IntKind.u64.wrap ((IntKind.u64.wrap ((BitVec.toNat (BitVec.ofInt IntKind.u64.bits (atX raw k) ^^^ BitVec.ofInt IntKind.u64.bits (Int.fdiv (atX raw k) (2 ^ (min (Int.toNat (31 : Int)) IntKind.u64.bits)))) : Nat) : Int)) * (13787848793156543929 : Int))) ^^^ BitVec.ofInt IntKind.u64.bits (Int.fdiv (IntKind.u64.wrap ((IntKind.u64.wrap ((BitVec.toNat (BitVec.ofInt IntKind.u64.bits (atX raw k) ^^^ BitVec.ofInt IntKind.u64.bits (Int.fdiv (atX raw k) (2 ^ (min (Int.toNat (31 : Int)) IntKind.u64.bits)))) : Nat) : Int)) * (13787848793156543929 : Int))) (2 ^ (min (Int.toNat (29 : Int)) IntKind.u64.bits)))) : Nat) : Int)
 have e2 : 0 ≤ atY (atX raw k) ∧ atY (atX raw k) ≤ 18446744073709551615 := by unfold atY; exact h
 clear h
 have h := e2
 clear e2
 generalize atY (atX raw k) = u at h ⊢
 rw [Int.fdiv_eq_ediv_of_nonneg u (by omega)]
 rw [w64 (by omega) (by omega)]
 omega
def LC (P : Pg) : Prop := ∀ x : List Int × Int, 0 ≤ x.2 → Fn P zS0 Ba x fun d _ => d = atF x.1 x.2
theorem AfA (h : Has P ML) : LC P := by
 intro x h1
 refine ZK h ?_
 unfold UN
 refine Ad.mid (fun d => d = atX x.1 x.2) ⟨fun hc => ?_, fun hc => ?_⟩ fun d hd => ⟨by decide, by decide, by decide, ?_⟩
 ·have hc : ((List.length x.1 : Nat) : Int) > 0 := of_decide_eq_true hc
  have e1 : (Int.tmod x.2 ((List.length x.1 : Nat) : Int)) = x.2 % (List.length x.1 : Nat) := Int.tmod_eq_emod_of_nonneg h1
  have e2 := Int.emod_nonneg x.2 (show ((List.length x.1 : Nat) : Int) ≠ 0 by omega)
  have e3 := Int.emod_lt_of_pos x.2 hc
  refine ⟨by omega, by omega, by omega, ?_⟩
  unfold atX
  rw [if_pos hc]
 ·have hc : ¬ ((List.length x.1 : Nat) : Int) > 0 := of_decide_eq_false hc
  unfold atX
  rw [if_neg hc]
 ·subst hd; unfold atF atY; rfl
theorem LC.at (h : LC P) {raw : List Int} {k : Int} (h1 : 0 ≤ k) {K : Int → Unit → Prop} (hk : K (atF raw k) ()) : Fn P zS0 Ba (raw, k) K := (h (raw, k) h1).to fun (d : Int) e hd => by
 have hd : d = atF raw k := hd
 subst hd; exact hk
end Go.VS

/- The lines of a text. -/
set_option linter.unusedVariables false
set_option linter.unusedSimpArgs false
namespace Go.VS
variable {P : Pg}
def lnN (acc : Bs) : Bs → List Bs
 | [] => []
 | b :: r => if b = 10 ∨ r = [] then (acc ++ [b]) :: lnN [] r else lnN (acc ++ [b]) r
def lnF (s : Bs) : List Bs := lnN [] s
def Ji (P : Pg) : Prop := ∀ s : Bs, s.length ≤ 100000000 → Fn P Acm Cm s fun (d : List Bs) _ => d = lnF s
theorem AfC {s : Bs} {i : Nat} (h : i < s.length) : List.take (i + 1) s = List.take i s ++ [s.getD i 0] := by
 rw [List.take_add_one, List.getElem?_eq_getElem h, List.getD_eq_getElem?_getD, List.getElem?_eq_getElem h]
 rfl
theorem Ym (h : Has P Gk) : Ji P := by
 intro s hs
 refine Qo h ?_
 unfold LL
 refine Ad.mid (fun q => q = lnF s) ?_ fun q hq => hq
 refine AF.of (fun q => 0 ≤ q.2.1 ∧ q.2.1 ≤ q.2.2 ∧ q.2.2 ≤ s.length ∧ (q.1.length : Int) ≤ q.2.2 ∧ q.1 ++ lnN (List.drop q.2.1.toNat (List.take q.2.2.toNat s)) (s.drop q.2.2.toNat) = lnF s) (fun q => (s.length - q.2.2).toNat) ⟨by decide, by decide, by dsimp only; omega, by simp, by simp [lnF]⟩ ?_
 rintro ⟨o, f, i⟩ ⟨f0, f1, i1, ho, e⟩
 dsimp only at f0 f1 i1 ho e ⊢
 refine ⟨fun hc => ?_, fun hc => ?_⟩
 ·have hc := of_decide_eq_true hc
  rw [w64 (n := i + 1) (by omega) (by omega)]
  have hi : i.toNat < s.length := by omega
  have hd : s.drop i.toNat = s.getD i.toNat 0 :: s.drop (i.toNat + 1) := by
   rw [List.drop_eq_getElem_cons hi, List.getD_eq_getElem?_getD, List.getElem?_eq_getElem hi, Option.getD_some]
  have e1 : (i + 1).toNat = i.toNat + 1 := by omega
  have hdr : List.drop f.toNat (List.take (i.toNat + 1) s) = List.drop f.toNat (List.take i.toNat s) ++ [s.getD i.toNat 0] := by
   rw [AfC hi, List.drop_append_of_le_length (by rw [List.length_take]; omega)]
  rw [hd, lnN] at e
  have hnil : s.drop (i.toNat + 1) = [] ↔ i + 1 = s.length := by
   rw [List.drop_eq_nil_iff]; omega
  refine Ad.mid (fun q => 0 ≤ q.2 ∧ q.2 ≤ i + 1 ∧ (q.1.length : Int) ≤ i + 1 ∧ q.1 ++ lnN (List.drop q.2.toNat (List.take (i.toNat + 1) s)) (s.drop (i.toNat + 1)) = lnF s) ⟨⟨by omega, hc⟩, Ad.of ⟨fun hb => ?_, fun hb => ?_⟩⟩ ?_
  ·rw [if_pos (by
    simp at hb
    rcases hb with hb | hb
    ·refine Or.inl ?_
     rw [List.getD_eq_getElem?_getD]
     exact UInt8.toNat_inj.1 (by rw [show (10 : UInt8).toNat = 10 from rfl]; omega)
    ·exact Or.inr (hnil.2 hb))] at e
   refine ⟨⟨f0, by omega, by omega⟩, by simp only [List.length_cons, List.length_nil]; omega, by dsimp only; omega, by dsimp only; omega, ?_, ?_⟩
   ·simp only [List.length_append, List.length_cons, List.length_nil]; omega
   ·dsimp only
    rw [e1, hdr, show List.drop (i.toNat + 1) (List.take (i.toNat + 1) s) = [] by rw [List.drop_eq_nil_iff, List.length_take]; omega, ← e]
    simp only [List.append_assoc, List.singleton_append]
  ·rw [if_neg (by
    simp at hb
    rintro (hh | hh)
    ·rw [List.getD_eq_getElem?_getD] at hh
     exact hb.1 (by rw [hh]; rfl)
    ·exact hb.2 (hnil.1 hh))] at e
   refine ⟨f0, by dsimp only; omega, by dsimp only; omega, ?_⟩
   dsimp only
   rw [hdr]
   exact e
  ·rintro ⟨o', f'⟩ ⟨k1, k2, k3, k4⟩
   dsimp only at k1 k2 k3 k4 ⊢
   exact ⟨⟨k1, k2, by omega, k3, by rw [e1]; exact k4⟩, by omega⟩
 ·have hc := of_decide_eq_false hc
  rw [show i.toNat = s.length by omega, List.drop_length, lnN, List.append_nil] at e
  exact e
end Go.VS

/- Texts as the library cuts them into lines. -/
set_option linter.unusedVariables false
set_option linter.unusedSimpArgs false
namespace Go.VS
variable {P : Pg}
def saN (acc : Bs) : Bs → List Bs
 | [] => [acc]
 | b :: r => if b = 10 then (acc ++ [b]) :: saN [] r else saN (acc ++ [b]) r
def saF (s : Bs) : List Bs := saN [] s
def M6 (s : Bs) : Bool := ([10] : Bs).isSuffixOf s
def Hj (P : Pg) : Prop := ∀ s : Bs, Fn P "strings.Count" Ed (s, [10]) fun (d : Int) _ => d = ((s.count 10 : Nat) : Int)
def Gz (P : Pg) : Prop := ∀ s : Bs, s.length ≤ 140737488351232 → Fn P "strings.HasSuffix" C4 (s, [10]) fun (d : Bool) _ => d = M6 s
def GJ (P : Pg) : Prop := ∀ s : Bs, s.length ≤ 4000000000 → Fn P "strings.SplitAfter" Gy (s, [10]) fun (d : List Bs) _ => d = saF s
theorem Hj.at (h : Hj P) {s : Bs} {K : Int → Unit → Prop} (hk : K ((s.count 10 : Nat) : Int) ()) : Fn P "strings.Count" Ed (s, [10]) K :=
 (h s).to fun (d : Int) _ hd => by
  have hd : d = ((s.count 10 : Nat) : Int) := hd
  subst hd
  exact hk
theorem Gz.at (h : Gz P) {s : Bs} (hs : s.length ≤ 140737488351232) {K : Bool → Unit → Prop} (hk : K (M6 s) ()) : Fn P "strings.HasSuffix" C4 (s, [10]) K :=
 (h s hs).to fun (d : Bool) _ hd => by
  have hd : d = M6 s := hd
  subst hd
  exact hk
theorem GJ.at (h : GJ P) {s : Bs} (hs : s.length ≤ 4000000000) {K : List Bs → Unit → Prop} (hk : K (saF s) ()) : Fn P "strings.SplitAfter" Gy (s, [10]) K :=
 (h s hs).to fun (d : List Bs) _ hd => by
  have hd : d = saF s := hd
  subst hd
  exact hk
theorem Og (l : Bs) (b : UInt8) : M6 (l ++ [b]) = (b == 10) := by
 unfold M6
 by_cases h : b = 10
 ·subst h
  rw [show ((10 : UInt8) == 10) = true from rfl, List.isSuffixOf_iff_suffix]
  exact List.suffix_append ..
 ·rw [show (b == 10) = false by simpa using h, Bool.eq_false_iff]
  intro hs
  rw [List.isSuffixOf_iff_suffix] at hs
  obtain ⟨t, ht⟩ := hs
  have := congrArg List.getLast? ht
  simp at this
  exact h this.symm
theorem Ue : ∀ (s acc : Bs), (lnN acc s).length = s.count 10 + (if s ≠ [] ∧ M6 s = false then 1 else 0)
 | [], acc => by rw [if_neg (by simp)]; rfl
 | b :: r, acc => by
  rw [lnN]
  rcases List.eq_nil_or_concat r with rfl | ⟨l, c, rfl⟩
  ·rw [if_pos (.inr rfl), show [b] = ([] : Bs) ++ [b] from rfl, Og]
   by_cases hb : b = 10
   ·subst hb; rfl
   ·rw [show (b == 10) = false by simpa using hb]
    simp [lnN, hb]
  ·have e1 : M6 (b :: l.concat c) = M6 (l.concat c) := by
    rw [List.concat_eq_append, ← List.cons_append, Og, Og]
   have hne : l.concat c ≠ [] := by simp
   by_cases hb : b = 10
   ·subst hb
    rw [if_pos (.inl rfl), List.length_cons, Ue (l.concat c) [], e1, List.count_cons_self]
    simp only [ne_eq, hne, not_false_eq_true, true_and, List.cons_ne_nil]
    omega
   ·rw [if_neg (by rintro (h1 | h1); exact hb h1; exact hne h1), Ue (l.concat c) _, e1, List.count_cons_of_ne (by simpa using hb)]
    simp only [ne_eq, hne, not_false_eq_true, true_and, List.cons_ne_nil]
theorem Y1 (s : Bs) : (lnF s).length = s.count 10 + (if s ≠ [] ∧ M6 s = false then 1 else 0) := Ue s []
def N1 (P : Pg) : Prop := ∀ s : Bs, s.length ≤ 140737488351232 → Fn P YD DD s fun (d : Bool) _ => d = M6 s
theorem Aam (h : Has P GY) (hS : Gz P) : N1 P := by
 intro s hs
 refine RJ h ?_
 unfold MU
 exact hS.at hs rfl
def GK (s : Bs) : Int := if s.length > 1048576 ∨ (lnF s).length > 4096 then 1 else 0
def N0 (P : Pg) : Prop := ∀ s : Bs, s.length ≤ 140737488351232 → Fn P AdU DC s fun (d : Int) _ => d = GK s
theorem Aal (h : Has P GX) (hC : Hj P) (hE : N1 P) : N0 P := by
 intro s hs
 refine RI h ?_
 unfold MT
 refine hC.at ?_
 have hcl := List.count_le_length (a := (10 : UInt8)) (l := s)
 have hl := Y1 s
 refine Ad.mid (fun d => (!(s == ([] : Bs))) = true → d = M6 s) ⟨fun _ => (hE s hs).to fun (d : Bool) _ hd _ => hd, (by intro hc hc2; rw [hc] at hc2; cases hc2), trivial⟩ ?_
 intro d hd
 have hfin : ∀ n : Int, n = ((lnF s).length : Nat) → ((cond (decide (((List.length s : Nat) : Int) > (1048576 : Int))) true (decide (n > (4096 : Int)))) = true → (1 : Int) = GK s) ∧ ((cond (decide (((List.length s : Nat) : Int) > (1048576 : Int))) true (decide (n > (4096 : Int)))) = false → (0 : Int) = GK s) := by
  rintro n rfl
  unfold GK
  by_cases h1 : s.length > 1048576
  ·have e1 : decide (((List.length s : Nat) : Int) > (1048576 : Int)) = true := decide_eq_true (by omega)
   rw [e1, if_pos (.inl h1)]
   exact ⟨fun _ => rfl, fun h => nomatch h⟩
  ·have e1 : decide (((List.length s : Nat) : Int) > (1048576 : Int)) = false := decide_eq_false (by omega)
   rw [e1, cond_false]
   by_cases h2 : (lnF s).length > 4096
   ·rw [if_pos (.inr h2), show decide ((((lnF s).length : Nat) : Int) > 4096) = true from decide_eq_true (by omega)]
    exact ⟨fun _ => rfl, fun h => nomatch h⟩
   ·rw [if_neg (by omega), show decide ((((lnF s).length : Nat) : Int) > 4096) = false from decide_eq_false (by omega)]
    exact ⟨(fun h => nomatch h), fun _ => rfl⟩
 refine Ad.mid (fun n => n = ((lnF s).length : Nat)) ⟨fun hc => ?_, fun hc => ?_⟩ hfin
 ·by_cases hn : s = []
  ·subst hn; cases hc
  ·have hb : (!(s == ([] : Bs))) = true := by simpa using hn
   rw [hb, cond_true] at hc
   have he : M6 s = false := by rw [← hd hb]; simpa using hc
   rw [w64 (by omega) (by omega), hl, if_pos ⟨hn, he⟩]
   omega
 ·by_cases hn : s = []
  ·subst hn; rfl
  ·have hb : (!(s == ([] : Bs))) = true := by simpa using hn
   rw [hb, cond_true] at hc
   have he : M6 s = true := by rw [← hd hb]; simpa using hc
   rw [hl, if_neg (by rw [he]; simp)]
   omega
end Go.VS

/- Trees: which are valid. -/
set_option linter.unusedVariables false
set_option linter.unusedSimpArgs false
namespace Go.VS
variable {P : Pg}
theorem N9 : ∀ x : Bs, Op.bytesLess x x = false
 | [] => rfl
 | a :: x => by
  unfold Op.bytesLess
  rw [N9 x]
  simp
theorem P6 : ∀ {x y z : Bs}, Op.bytesLess x y = true → Op.bytesLess y z = true → Op.bytesLess x z = true
 | x, y, [], _, h2 => by unfold Op.bytesLess at h2; cases y <;> cases h2
 | x, [], c :: z, h1, _ => by unfold Op.bytesLess at h1; cases x <;> cases h1
 | [], b :: y, c :: z, _, _ => rfl
 | a :: x, b :: y, c :: z, h1, h2 => by
  unfold Op.bytesLess at h1 h2 ⊢
  simp only [Bool.or_eq_true, Bool.and_eq_true, decide_eq_true_eq, beq_iff_eq] at h1 h2 ⊢
  rcases h1 with h1 | ⟨rfl, h1⟩
  ·rcases h2 with h2 | ⟨rfl, h2⟩
   ·exact .inl (UInt8.lt_trans h1 h2)
   ·exact .inl h1
  ·rcases h2 with h2 | ⟨rfl, h2⟩
   ·exact .inl h2
   ·exact .inr ⟨rfl, P6 h1 h2⟩
theorem Ah8 : ∀ {x y : Bs}, x ≠ y → Op.bytesLess x y = true ∨ Op.bytesLess y x = true
 | [], [], h => absurd rfl h
 | [], b :: y, _ => .inl rfl
 | a :: x, [], _ => .inr rfl
 | a :: x, b :: y, h => by
  unfold Op.bytesLess
  simp only [Bool.or_eq_true, Bool.and_eq_true, decide_eq_true_eq, beq_iff_eq]
  by_cases hab : a = b
  ·subst hab
   rcases Ah8 (x := x) (y := y) (fun e => h (by rw [e])) with h1 | h1
   ·exact .inl (.inr ⟨rfl, h1⟩)
   ·exact .inr (.inr ⟨rfl, h1⟩)
  ·rcases UInt8.lt_or_lt_of_ne hab with h1 | h1
   ·exact .inl (.inl h1)
   ·exact .inr (.inl h1)
theorem Sv : ∀ (x : Bs) (b : UInt8) (r : Bs), Op.bytesLess x (x ++ b :: r) = true
 | [], b, r => rfl
 | a :: x, b, r => by
  rw [List.cons_append]
  unfold Op.bytesLess
  rw [Sv x b r]
  simp
theorem AcP {p : Bs} {j : Nat} (h : j < p.length) : Op.bytesLess (p.take j) p = true := by
 have := Sv (p.take j) (p.getD j 0) (p.drop (j + 1))
 rwa [← Sy h, List.take_append_drop] at this
def FZ (a b : Bs) : Bool := cond (cond (decide (((List.length b : Nat) : Int) > ((List.length a : Nat) : Int))) ((List.take (Int.toNat ((List.length a : Nat) : Int)) b) == a) false) (((UInt8.toNat (List.getD b (Int.toNat ((List.length a : Nat) : Int)) 0) : Nat) : Int) == (47 : Int)) false
theorem Sq {a b : Bs} : FZ a b = true ↔ a.length < b.length ∧ b.take a.length = a ∧ b.getD a.length 0 = 47 := by
 unfold FZ
 rw [show Int.toNat ((List.length a : Nat) : Int) = a.length from rfl, Afb]
 by_cases h : a.length < b.length
 ·rw [show decide (((List.length b : Nat) : Int) > ((List.length a : Nat) : Int)) = true from decide_eq_true (by omega), cond_true]
  by_cases h2 : b.take a.length = a
  ·rw [h2, show (a == a) = true from beq_self_eq_true a, cond_true]
   simp [h]
  ·rw [show (List.take a.length b == a) = false from beq_eq_false_iff_ne.2 h2]
   simp [h2]
 ·rw [show decide (((List.length b : Nat) : Int) > ((List.length a : Nat) : Int)) = false from decide_eq_false (by omega)]
  simp [h]
theorem Li : ∀ (l : List Bh) (p : Bs), (D0 l p).isSome = true ↔ ∃ f ∈ l, f.1 = p
 | [], p => by simp [D0]
 | f :: r, p => by
  have ih := Li r p
  rw [D0]
  cases hb : D0 r p with
  | some v =>
   rw [hb] at ih
   simp only [Option.isSome_some, true_iff] at ih ⊢
   obtain ⟨g, hg, e⟩ := ih
   exact ⟨g, List.mem_cons_of_mem _ hg, e⟩
  | none =>
   rw [hb] at ih
   dsimp only
   by_cases hp : p = f.1
   ·rw [if_pos hp]
    simp only [Option.isSome_some, true_iff]
    exact ⟨f, List.mem_cons_self .., hp.symm⟩
   ·rw [if_neg hp]
    simp only [Option.isSome_none, Bool.false_eq_true, false_iff]
    rintro ⟨g, hg, e⟩
    rcases List.mem_cons.1 hg with rfl | hg
    ·exact hp e.symm
    ·have := ih.2 ⟨g, hg, e⟩
     cases this
abbrev pth (l : List Bh) (i : Nat) : Bs := (l.getD i ([], [])).1
def V5 (l : List Bh) : Prop := ∀ i, i < l.length → ∀ k, k < i → Op.bytesLess (pth l k) (pth l i) = true ∧ FZ (pth l k) (pth l i) = false
theorem QU (l : List Bh) : QT l = true ↔ V5 l := by
 unfold QT
 rw [List.all_eq_true]
 constructor
 ·intro h
  have hadj : ∀ i, 0 < i → i < l.length → Op.bytesLess (pth l (i - 1)) (pth l i) = true := fun i h0 hi => by
   have := h i (List.mem_range.2 hi)
   simp only [Bool.and_eq_true, Bool.or_eq_true, beq_iff_eq] at this
   rcases this.1 with h1 | h1
   ·omega
   ·exact h1
  have hch : ∀ i, i < l.length → ∀ k, k < i → Op.bytesLess (pth l k) (pth l i) = true := by
   intro i
   induction i with
   | zero => intro _ k hk; omega
   | succ i ih =>
    intro hi k hk
    have h1 := hadj (i + 1) (by omega) hi
    rw [Nat.add_sub_cancel] at h1
    by_cases hki : k = i
    ·subst hki; exact h1
    ·exact P6 (ih (by omega) k (by omega)) h1
  intro i hi k hk
  refine ⟨hch i hi k hk, ?_⟩
  rw [Bool.eq_false_iff]
  intro ha
  obtain ⟨a1, a2, a3⟩ := Sq.1 ha
  have hn := h i (List.mem_range.2 hi)
  simp only [Bool.and_eq_true, Bool.not_eq_true'] at hn
  have hn := hn.2
  unfold Y5 at hn
  rw [List.any_eq_false] at hn
  refine hn (pth l k).length (List.mem_range.2 a1) ?_
  rw [Bool.and_eq_true]
  refine ⟨(Li l _).2 ⟨l.getD k ([], []), Br (by omega), a2.symm⟩, beq_iff_eq.2 a3⟩
 ·intro h i hi
  have hi := List.mem_range.1 hi
  simp only [Bool.and_eq_true, Bool.or_eq_true, beq_iff_eq, Bool.not_eq_true']
  refine ⟨?_, ?_⟩
  ·by_cases h0 : i = 0
   ·exact .inl h0
   ·exact .inr (h i hi (i - 1) (by omega)).1
  ·unfold Y5
   rw [List.any_eq_false]
   intro j hj hb
   have hj : j < (pth l i).length := List.mem_range.1 hj
   rw [Bool.and_eq_true] at hb
   obtain ⟨hb1, hb2⟩ := hb
   obtain ⟨f, hf, hfe⟩ := (Li l _).1 hb1
   obtain ⟨m, hm⟩ := List.getElem?_of_mem hf
   have hml : m < l.length := (List.getElem?_eq_some_iff.1 hm).1
   have hpm : pth l m = (pth l i).take j := by
    unfold pth
    rw [List.getD_eq_getElem?_getD, hm]
    exact hfe
   have hlen : ((pth l i).take j).length = j := by rw [List.length_take]; exact Nat.min_eq_left (by omega)
   rcases Nat.lt_trichotomy m i with h1 | h1 | h1
   ·have := (h i hi m h1).2
    rw [Bool.eq_false_iff] at this
    refine this (Sq.2 ⟨by rw [hpm, hlen]; exact hj, by rw [hpm, hlen], by rw [hpm, hlen]; exact beq_iff_eq.1 hb2⟩)
   ·subst h1
    have := congrArg List.length hpm
    rw [hlen] at this
    exact absurd hj (by rw [this]; exact Nat.lt_irrefl _)
   ·have h2 := (h m hml i h1).1
    have h3 := AcP hj
    rw [← hpm] at h3
    have h4 := N9 (pth l i)
    rw [P6 h2 h3] at h4
    cases h4
def Fm (l : List Bh) : Int :=
 if l.length > 200 then 1 else if l.all (fun f => CD f.1 == 0) = false then 210 else if QT l = false then 211 else if l.all (fun f => GK f.2 == 0) = false then 1 else 0
def Kw (l : List Bh) : Prop := l.length ≤ 1000000 ∧ ∀ f ∈ l, f.1.length ≤ 140737488351232 ∧ f.2.length ≤ 140737488351232
theorem Kw.at {l : List Bh} (h : Kw l) {i : Nat} (hi : i < l.length) : (l.getD i ([], [])).1.length ≤ 140737488351232 ∧ (l.getD i ([], [])).2.length ≤ 140737488351232 := h.2 _ (Br hi)
def Xd (P : Pg) : Prop := ∀ f : Bh, f.1.length ≤ 140737488351232 → Fn P WZ CL f fun (d : Bool) _ => d = (CD f.1 != 0)
theorem AeT (h : Has P Fp) (hC : Fu P) : Xd P := by
 intro f hf
 refine Pj h ?_
 unfold Kd
 exact hC.at hf rfl
def Xe (P : Pg) : Prop := ∀ f : Bh, f.2.length ≤ 140737488351232 → Fn P Acg CN f fun (d : Bool) _ => d = (GK f.2 != 0)
theorem AeU (h : Has P Fq) (hC : N0 P) : Xe P := by
 intro f hf
 refine Pk h ?_
 unfold Ke
 refine (hC _ hf).to ?_
 rintro (d : Int) _ hd
 have hd : d = GK f.2 := hd
 rw [hd]
def Xf (P : Pg) : Prop := ∀ l : List Bh, Kw l → Fn P zS3 Aw (l, ()) fun (d : Int) _ => decide (d ≥ 0) = l.any fun f => CD f.1 != 0
theorem AaH {α : Type} {l : List α} {p : α → Bool} {i : Nat} {d : α} (hi : i < l.length) (h : p (l.getD i d) = true) : l.any p = true := List.any_eq_true.2 ⟨_, Br hi, h⟩
theorem AaJ {α : Type} {l : List α} {p : α → Bool} {d : α} (h : ∀ j, j < l.length → p (l.getD j d) = false) : l.any p = false := by
 rw [List.any_eq_false]
 intro x hx
 obtain ⟨j, hj⟩ := List.getElem?_of_mem hx
 have hl : j < l.length := (List.getElem?_eq_some_iff.1 hj).1
 have := h j hl
 rw [List.getD_eq_getElem?_getD, hj, Option.getD_some] at this
 rw [this]; simp
theorem AeV (h : Has P AY) (hC : Xd P) : Xf P := by
 intro l hl
 refine Di h ?_
 unfold B0
 dsimp only
 refine Ad.mid (fun _ => (l.any fun f => CD f.1 != 0) = false) ?_ fun _ h => by rw [h]; rfl
 refine AF.of (fun q => (0 ≤ q.2 ∧ q.2 ≤ l.length) ∧ ∀ j, j < q.2.toNat → (CD (l.getD j ([], [])).1 != 0) = false) (fun q => (l.length - q.2).toNat) ⟨⟨Int.le_refl _, by dsimp only; omega⟩, fun j hj => absurd hj (by simp)⟩ ?_
 rintro ⟨q, i⟩ ⟨⟨i0, i1⟩, hq⟩
 dsimp only at i0 i1 hq ⊢
 have hln := hl.1
 refine ⟨fun hi => ?_, fun hi => ?_⟩
 ·have hi := of_decide_eq_true hi
  have hi2 : i.toNat < l.length := by omega
  refine Ad.mid (fun _ => (CD (l.getD i.toNat ([], [])).1 != 0) = false) ⟨⟨i0, hi⟩, hi2, (hC _ (hl.at hi2).1).to ?_⟩ fun _ hn => ?_
  ·rintro (d : Bool) _ hd
   have hd : d = _ := hd
   subst hd
   refine ⟨fun hb => ?_, fun hb => hb⟩
   rw [AaH (d := ([], [])) hi2 hb, decide_eq_true (by omega)]
  ·rw [w64 (by omega) (by omega)]
   refine ⟨⟨⟨by omega, by omega⟩, fun j hj => ?_⟩, by omega⟩
   by_cases hji : j = i.toNat
   ·subst hji; exact hn
   ·exact hq j (by omega)
 ·have hi := of_decide_eq_false hi
  exact AaJ (d := ([], [])) fun j hj => hq j (by omega)
def Xg (P : Pg) : Prop := ∀ l : List Bh, Kw l → Fn P zS3 Ax (l, ()) fun (d : Int) _ => decide (d ≥ 0) = l.any fun f => GK f.2 != 0
theorem AeW (h : Has P AZ) (hC : Xe P) : Xg P := by
 intro l hl
 refine Dj h ?_
 unfold B2
 dsimp only
 refine Ad.mid (fun _ => (l.any fun f => GK f.2 != 0) = false) ?_ fun _ h => by rw [h]; rfl
 refine AF.of (fun q => (0 ≤ q.2 ∧ q.2 ≤ l.length) ∧ ∀ j, j < q.2.toNat → (GK (l.getD j ([], [])).2 != 0) = false) (fun q => (l.length - q.2).toNat) ⟨⟨Int.le_refl _, by dsimp only; omega⟩, fun j hj => absurd hj (by simp)⟩ ?_
 rintro ⟨q, i⟩ ⟨⟨i0, i1⟩, hq⟩
 dsimp only at i0 i1 hq ⊢
 have hln := hl.1
 refine ⟨fun hi => ?_, fun hi => ?_⟩
 ·have hi := of_decide_eq_true hi
  have hi2 : i.toNat < l.length := by omega
  refine Ad.mid (fun _ => (GK (l.getD i.toNat ([], [])).2 != 0) = false) ⟨⟨i0, hi⟩, hi2, (hC _ (hl.at hi2).2).to ?_⟩ fun _ hn => ?_
  ·rintro (d : Bool) _ hd
   have hd : d = _ := hd
   subst hd
   refine ⟨fun hb => ?_, fun hb => hb⟩
   rw [AaH (d := ([], [])) hi2 hb, decide_eq_true (by omega)]
  ·rw [w64 (by omega) (by omega)]
   refine ⟨⟨⟨by omega, by omega⟩, fun j hj => ?_⟩, by omega⟩
   by_cases hji : j = i.toNat
   ·subst hji; exact hn
   ·exact hq j (by omega)
 ·have hi := of_decide_eq_false hi
  exact AaJ (d := ([], [])) fun j hj => hq j (by omega)
def Xh (P : Pg) : Prop := ∀ l : List Bh, Kw l → Fn P zS4 Ar (l, ()) fun (d : Bool) _ => d = l.any fun f => CD f.1 != 0
theorem AeX (h : Has P AR) (hI : Xf P) : Xh P := by
 intro l hl
 refine CY h ?_
 unfold BO
 exact (hI l hl).to fun (d : Int) _ hd => hd
def Xi (P : Pg) : Prop := ∀ l : List Bh, Kw l → Fn P zS4 Au (l, ()) fun (d : Bool) _ => d = l.any fun f => GK f.2 != 0
theorem AeY (h : Has P AU) (hI : Xg P) : Xi P := by
 intro l hl
 refine CZ h ?_
 unfold BP
 exact (hI l hl).to fun (d : Int) _ hd => hd
theorem AaI {α : Type} (l : List α) (p : α → Int) : (l.any fun f => p f != 0) = !(l.all fun f => p f == 0) := by
 induction l with
 | nil => rfl
 | cons a l ih => rw [List.any_cons, List.all_cons, ih, Bool.not_and]; rfl
def Fw (P : Pg) : Prop := ∀ l : List Bh, Kw l → Fn P zS2 CH l fun (d : Int) _ => d = Fm l
theorem UA (h : Has P Fo) (h1 : Xh P) (hO : L7 P) (h2 : Xi P) : Fw P := by
 intro l hl
 refine LS h ?_
 unfold Jl
 unfold Fm
 refine Ad.mid (fun _ => l.length ≤ 200 ∧ l.all (fun f => CD f.1 == 0) = true ∧ QT l = true ∧ l.all (fun f => GK f.2 == 0) = true) ?_ fun _ hh => by
  obtain ⟨a1, a2, a3, a4⟩ := hh
  rw [if_neg (by omega), if_neg (by rw [a2]; simp), if_neg (by rw [a3]; simp), if_neg (by rw [a4]; simp)]
 refine ⟨fun hc => ?_, fun hc => ?_⟩
 ·have hc := of_decide_eq_true hc
  rw [if_pos (by omega)]
 have hc := of_decide_eq_false hc
 rw [if_neg (by omega)]
 refine (h1 l hl).to ?_
 rintro (d : Bool) _ hd
 have hd : d = _ := hd
 rw [AaI l fun f => CD f.1] at hd
 subst hd
 refine ⟨fun hb => ?_, fun hb => ?_⟩
 ·rw [if_pos (by simpa using hb)]
 have hb : l.all (fun f => CD f.1 == 0) = true := by simpa using hb
 rw [if_neg (by rw [hb]; simp)]
 refine (hO l hl.1 hl.2).to ?_
 rintro (d : Bool) _ hd
 have hd : d = QT l := hd
 subst hd
 refine ⟨fun hb2 => ?_, fun hb2 => ?_⟩
 ·rw [if_pos (by simpa using hb2)]
 have hb2 : QT l = true := by simpa using hb2
 rw [if_neg (by rw [hb2]; simp)]
 refine (h2 l hl).to ?_
 rintro (d : Bool) _ hd
 have hd : d = _ := hd
 rw [AaI l fun f => GK f.2] at hd
 subst hd
 refine ⟨fun hb3 => ?_, fun hb3 => ?_⟩
 ·rw [if_pos (by simpa using hb3)]
 have hb3 : l.all (fun f => GK f.2 == 0) = true := by simpa using hb3
 exact ⟨by omega, hb, hb2, hb3⟩
theorem Fw.at (h : Fw P) {l : List Bh} (hl : Kw l) {K : Int → Unit → Prop} (hk : K (Fm l) ()) : Fn P zS2 CH l K :=
 (h l hl).to fun (d : Int) _ hd => by
  have hd : d = Fm l := hd
  subst hd
  exact hk
end Go.VS

/- Graphs: who reaches whom; the document's marking. -/
set_option linter.unusedVariables false
set_option linter.unusedSimpArgs false
namespace Go.VS
variable {P : Pg}
abbrev Ai := List Int × (Int × List Bh)
def A8 (g : List Ai) (c : Int) : List Int := (g.getD c.toNat ([], (0, []))).1
def inR (g : List Ai) (c : Int) : Prop := 0 ≤ c ∧ c < g.length
def Sm (g : List Ai) : Prop := ∀ c, inR g c → ∀ p ∈ A8 g c, inR g p
inductive Rch (g : List Ai) : Int → Int → Prop
 | refl (c : Int) : Rch g c c
 | step {c p x : Int} (h : p ∈ A8 g c) (t : Rch g p x) : Rch g c x
theorem Rch.trans {g : List Ai} {a b c : Int} (h : Rch g a b) (k : Rch g b c) : Rch g a c := by
 induction h with
 | refl => exact k
 | step h _ ih => exact .step h (ih k)
theorem Rch.inR {g : List Ai} (hv : Sm g) {a b : Int} (h : Rch g a b) (ha : inR g a) : Go.VS.inR g b := by
 induction h with
 | refl => exact ha
 | step h _ ih => exact ih (hv _ ha _ h)
end Go.VS

/- The differences of two trees: what they are, and that they are one list. -/
set_option linter.unusedVariables false
set_option linter.unusedSimpArgs false
namespace Go.VS
variable {P : Pg}
abbrev Af3 := Bs × Int
def AhU (a b : List Bh) (p : Bs) : Option Int := match D0 a p, D0 b p with
 | none, some _ => some 1
 | some _, none => some 2
 | some x, some y => if x = y then none else some 3
 | none, none => none
def AkO (l : List Af3) : Prop := l.Pairwise fun x y => Op.bytesLess x.1 y.1 = true
theorem AjS : ∀ {l m : List Af3}, AkO l → AkO m → (∀ t, t ∈ l ↔ t ∈ m) → l = m
 | [], [], _, _, _ => rfl
 | [], b :: m, _, _, h => by have := (h b).2 (List.mem_cons_self ..); cases this
 | a :: l, [], _, _, h => by have := (h a).1 (List.mem_cons_self ..); cases this
 | a :: l, b :: m, hl, hm, h => by
  have hl2 := List.pairwise_cons.1 hl
  have hm2 := List.pairwise_cons.1 hm
  have hab : a = b := by
   rcases List.mem_cons.1 ((h a).1 (List.mem_cons_self ..)) with e | h1
   ·exact e
   ·rcases List.mem_cons.1 ((h b).2 (List.mem_cons_self ..)) with e | h2
    ·exact e.symm
    ·have h3 := P6 (hm2.1 a h1) (hl2.1 b h2)
     rw [N9] at h3
     cases h3
  subst hab
  rw [AjS hl2.2 hm2.2 fun t => ⟨fun ht => ?_, fun ht => ?_⟩]
  ·rcases List.mem_cons.1 ((h t).1 (List.mem_cons_of_mem _ ht)) with e | h1
   ·have h3 := hl2.1 t ht
    rw [e, N9] at h3
    cases h3
   ·exact h1
  ·rcases List.mem_cons.1 ((h t).2 (List.mem_cons_of_mem _ ht)) with e | h1
   ·have h3 := hm2.1 t ht
    rw [e, N9] at h3
    cases h3
   ·exact h1
def AgQ (a b : List Bh) (d : List Af3) : Prop := AkO d ∧ ∀ p k, (p, k) ∈ d ↔ AhU a b p = some k
theorem Aim {a b : List Bh} {d e : List Af3} (hd : AgQ a b d) (he : AgQ a b e) : d = e :=
 AjS hd.1 he.1 fun t => by
  obtain ⟨p, k⟩ := t
  rw [hd.2, he.2]
def AgN (a b : List Bh) : Int := if Fm a ≠ 0 then Fm a else Fm b
def Aiz (P : Pg) : Prop := ∀ x : List Bh × List Bh, Kw x.1 → Kw x.2 → Fn P "mergelens/tree.Diff" Ahy x fun (d : List Af3 × Int) _ => d.2 = AgN x.1 x.2 ∧ (d.2 ≠ 0 → d.1 = []) ∧ (d.2 = 0 → AgQ x.1 x.2 d.1)
end Go.VS

/- The document's trees. -/
set_option linter.unusedVariables false
set_option linter.unusedSimpArgs false
namespace Go.VS
variable {P : Pg}
def findF : List Bh → Bs → Bs × Bool
 | [], _ => ([], false)
 | f :: r, p => if f.1 = p then (f.2, true) else findF r p
theorem AiZ {l : List Bh} {i : Nat} (hi : i < l.length) (p : Bs) : findF (l.drop i) p = if (l.getD i ([], [])).1 = p then ((l.getD i ([], [])).2, true) else findF (l.drop (i + 1)) p := by
 rw [List.drop_eq_getElem_cons hi, findF, getD_eq hi]
def Ahj (P : Pg) : Prop := ∀ x : List Bh × Bs, x.1.length ≤ 1000000 → Fn P zS7 Agj x fun (d : Bs × Bool) _ => d = findF x.1 x.2
theorem AkA (h : Has P Ag6) : Ahj P := by
 rintro ⟨l, p⟩ hl
 dsimp only at hl
 refine Ai8 h ?_
 unfold Aii
 dsimp only
 refine Ad.mid (fun _ => findF l p = ([], false)) ?_ fun _ h => h.symm
 refine AF.of (fun q => (0 ≤ q.2.2 ∧ q.2.2 ≤ l.length) ∧ findF (l.drop q.2.2.toNat) p = findF l p) (fun q => (l.length - q.2.2).toNat) ⟨⟨Int.le_refl _, by dsimp only; omega⟩, rfl⟩ ?_
 rintro ⟨q1, q2, i⟩ ⟨⟨i0, i1⟩, hq⟩
 dsimp only at i0 i1 hq ⊢
 refine ⟨fun hi => ?_, fun hi => ?_⟩
 ·have hi := of_decide_eq_true hi
  have hi2 : i.toNat < l.length := by omega
  rw [AiZ hi2] at hq
  refine Ad.mid (fun _ => (l.getD i.toNat ([], [])).1 ≠ p) ⟨⟨i0, hi⟩, hi2, fun hb => ?_, fun hb => beq_eq_false_iff_ne.1 hb⟩ fun _ hn => ?_
  ·rw [if_pos (eq_of_beq hb)] at hq
   exact hq
  ·rw [if_neg hn] at hq
   rw [w64 (by omega) (by omega), show (i + 1).toNat = i.toNat + 1 by omega]
   exact ⟨⟨⟨by omega, by omega⟩, hq⟩, by omega⟩
 ·have hi := of_decide_eq_false hi
  rw [List.drop_of_length_le (by omega)] at hq
  exact hq.symm
theorem Ahj.at (h : Ahj P) {l : List Bh} {p : Bs} (hl : l.length ≤ 1000000) {K : Bs × Bool → Unit → Prop} (hk : K (findF l p) ()) : Fn P zS7 Agj (l, p) K :=
 (h (l, p) hl).to fun (d : Bs × Bool) _ hd => by
  have hd : d = findF l p := hd
  subst hd
  exact hk
end Go.VS

/- The document's differences. -/
set_option linter.unusedVariables false
set_option linter.unusedSimpArgs false
namespace Go.VS
variable {P : Pg}
def Aiy (P : Pg) : Prop := ∀ x : List Bh × List Bh, Kw x.1 → Kw x.2 → Fn P "mergelens/tree.both" Agy x fun (d : Int) _ => d = AgN x.1 x.2
theorem Akz (h : Has P Ag7) (hT : Fw P) : Aiy P := by
 rintro ⟨a, b⟩ ha hb
 dsimp only at ha hb
 refine Ai9 h ?_
 unfold Aij AgN
 dsimp only
 refine hT.at ha ⟨fun hc => ?_, fun hc => ?_⟩
 ·rw [if_pos (by simpa using hc)]
 ·rw [if_neg (by simpa using hc)]
  exact hT.at hb rfl
theorem V5.mono {l : List Bh} (h : V5 l) {i k : Nat} (hk : k < l.length) (hi : i < k) : Op.bytesLess (pth l i) (pth l k) = true := (h k hk i hi).1
end Go.VS

/- The document's list of differences. -/
set_option linter.unusedVariables false
set_option linter.unusedSimpArgs false
namespace Go.VS
variable {P : Pg}
theorem V5.ne {l : List Bh} (h : V5 l) : l.Pairwise (fun x y => x.1 ≠ y.1) := by
 rw [List.pairwise_iff_getElem]
 intro i j hi hj hij e
 have h1 := (h j hj i hij).1
 have h2 : pth l i = pth l j := by
  unfold pth
  rw [getD_eq hi, getD_eq hj]
  exact e
 rw [h2, N9] at h1
 cases h1
end Go.VS

/- What tree.Diff gathers, and that it is the differences once sorted. -/
set_option linter.unusedVariables false
set_option linter.unusedSimpArgs false
namespace Go.VS
variable {P : Pg}
def AgY (b : List Bh) (f : Bh) : Option Af3 := match D0 b f.1 with
 | none => some (f.1, 2)
 | some v => if v = f.2 then none else some (f.1, 3)
def AhA (a : List Bh) (f : Bh) : Option Af3 := match D0 a f.1 with
 | none => some (f.1, 1)
 | some _ => none
def AhT (a b : List Bh) : List Af3 := a.filterMap (AgY b) ++ b.filterMap (AhA a)
theorem AiN {b : List Bh} {f : Bh} {t : Af3} (h : AgY b f = some t) : t.1 = f.1 := by
 unfold AgY at h
 split at h
 ·cases h; rfl
 ·split at h
  ·cases h
  ·cases h; rfl
theorem AiB {a : List Bh} {f : Bh} {t : Af3} (h : AhA a f = some t) : t.1 = f.1 ∧ D0 a f.1 = none := by
 unfold AhA at h
 split at h
 ·rename_i h1; cases h; exact ⟨rfl, h1⟩
 ·cases h
theorem V5.blob {l : List Bh} (h : V5 l) {f : Bh} (hf : f ∈ l) : D0 l f.1 = some f.2 := by
 have h1 := h.ne
 clear h
 induction l with
 | nil => cases hf
 | cons g r ih =>
  have h2 := List.pairwise_cons.1 h1
  rw [D0]
  rcases List.mem_cons.1 hf with rfl | hf
  ·cases hb : D0 r f.1 with
   | none => dsimp only; rw [if_pos rfl]
   | some v =>
    obtain ⟨g, hg, he⟩ := (Li r f.1).1 (by rw [hb]; rfl)
    exact absurd he.symm (h2.1 g hg)
  ·rw [ih hf h2.2]
theorem V5.Ajq {l : List Bh} (h : V5 l) {p v : Bs} : D0 l p = some v ↔ (p, v) ∈ l := by
 constructor
 ·intro hb
  obtain ⟨f, hf, rfl⟩ := (Li l p).1 (by rw [hb]; rfl)
  have := h.blob hf
  rw [this] at hb
  cases hb
  exact hf
 ·intro hf
  exact h.blob hf
theorem Akq {a b : List Bh} (ha : V5 a) (hb : V5 b) (p : Bs) (k : Int) : (p, k) ∈ AhT a b ↔ AhU a b p = some k := by
 unfold AhT AhU
 rw [List.mem_append, List.mem_filterMap, List.mem_filterMap]
 constructor
 ·rintro (⟨f, hf, h⟩ | ⟨f, hf, h⟩)
  ·have h1 := AiN h
   have h1 : p = f.1 := h1
   subst h1
   rw [ha.blob hf]
   unfold AgY at h
   split at h
   ·rename_i h2; rw [h2]; cases h; rfl
   ·rename_i v h2
    rw [h2]
    split at h
    ·cases h
    ·rename_i h3
     cases h
     dsimp only
     rw [if_neg (fun e => h3 e.symm)]
  ·obtain ⟨h1, h2⟩ := AiB h
   have h1 : p = f.1 := h1
   subst h1
   rw [h2, hb.blob hf]
   unfold AhA at h
   rw [h2] at h
   cases h; rfl
 ·intro h
  cases h1 : D0 a p with
  | none =>
   cases h2 : D0 b p with
   | none => rw [h1, h2] at h; cases h
   | some v =>
    rw [h1, h2] at h
    cases h
    exact .inr ⟨(p, v), hb.Ajq.1 h2, by unfold AhA; rw [h1]⟩
  | some u =>
   refine .inl ⟨(p, u), ha.Ajq.1 h1, ?_⟩
   unfold AgY
   cases h2 : D0 b p with
   | none => rw [h1, h2] at h; cases h; rfl
   | some v =>
    rw [h1, h2] at h
    dsimp only at h ⊢
    split at h
    ·cases h
    ·rename_i h3
     cases h
     rw [if_neg (fun e => h3 e.symm)]
theorem Ajs {l : List Bh} (h : l.Pairwise fun x y => x.1 ≠ y.1) {g : Bh → Option Af3} (hg : ∀ f t, g f = some t → t.1 = f.1) : (l.filterMap g).Pairwise fun x y => x.1 ≠ y.1 :=
 h.filterMap g fun x y hxy t ht u hu => by rw [hg x t ht, hg y u hu]; exact hxy
theorem AkK {a b : List Bh} (ha : V5 a) (hb : V5 b) : (AhT a b).Pairwise fun x y => x.1 ≠ y.1 := by
 unfold AhT
 refine List.pairwise_append.2 ⟨Ajs ha.ne fun _ _ h => AiN h, Ajs hb.ne fun _ _ h => (AiB h).1, fun x hx y hy e => ?_⟩
 obtain ⟨f, hf, h1⟩ := List.mem_filterMap.1 hx
 obtain ⟨g, hg, h2⟩ := List.mem_filterMap.1 hy
 obtain ⟨h3, h4⟩ := AiB h2
 rw [← h3, ← e, AiN h1, ha.blob hf] at h4
 cases h4
theorem Akm (a b : List Bh) : (AhT a b).length ≤ a.length + b.length := by
 unfold AhT
 rw [List.length_append]
 exact Nat.add_le_add (List.length_filterMap_le ..) (List.length_filterMap_le ..)
theorem Ail {a b : List Bh} (ha : V5 a) (hb : V5 b) {d : List Af3} (hp : d.Perm (AhT a b)) (hs : d.Pairwise fun x y => Op.bytesLess y.1 x.1 = false) : AgQ a b d := by
 refine ⟨?_, fun p k => by rw [hp.mem_iff, Akq ha hb]⟩
 have hn : d.Pairwise fun x y => x.1 ≠ y.1 := hp.symm.pairwise (AkK ha hb) fun h e => h e.symm
 unfold AkO
 refine (hs.and hn).imp ?_
 rintro x y ⟨h1, h2⟩
 rcases Ah8 h2 with h3 | h3
 ·exact h3
 ·rw [h3] at h1; cases h1
end Go.VS

/- What performing differences gives, and that it is one tree. -/
set_option linter.unusedVariables false
set_option linter.unusedSimpArgs false
namespace Go.VS
variable {P : Pg}
theorem He {α : Type} [DecidableEq α] : ∀ {l m : List α}, l.Nodup → (∀ x ∈ l, x ∈ m) → l.length ≤ m.length
 | [], _, _, _ => Nat.zero_le _
 | a :: l, m, hn, hs => by
  have h2 := List.nodup_cons.1 hn
  have ha := hs a (List.mem_cons_self ..)
  have ih := He (m := m.erase a) h2.2 fun x hx => (List.mem_erase_of_ne (show x ≠ a from fun e => h2.1 (by rw [← e]; exact hx))).2 (hs x (List.mem_cons_of_mem _ hx))
  rw [List.length_erase_of_mem ha] at ih
  have := List.length_pos_of_mem ha
  rw [List.length_cons]
  omega
def Ale : List Af3 → List Bs → Bool
 | [], _ => true
 | x :: r, seen => if x.2 < 1 ∨ x.2 > 3 ∨ x.1 ∈ seen then false else Ale r (x.1 :: seen)
def Ald (a b : List Bh) (x : Af3) : Bool :=
 if x.2 = 1 then (D0 b x.1).isSome && !(D0 a x.1).isSome else if x.2 = 2 then (D0 a x.1).isSome else (D0 a x.1).isSome && (D0 b x.1).isSome
def stepG (b : List Bh) (g : Bs → Option Bs) (x : Af3) : Bs → Option Bs := fun p => if p = x.1 then (if x.2 = 2 then none else some ((D0 b x.1).getD [])) else g p
def Alp (a b : List Bh) (d : List Af3) : Bs → Option Bs := d.foldl (stepG b) (D0 a)
def Ali (g : Bs → Option Bs) (l : List Bh) : Prop := (l.Pairwise fun x y => Op.bytesLess x.1 y.1 = true) ∧ ∀ p v, (p, v) ∈ l ↔ g p = some v
theorem AlV : ∀ {l m : List Bh}, (l.Pairwise fun x y => Op.bytesLess x.1 y.1 = true) → (m.Pairwise fun x y => Op.bytesLess x.1 y.1 = true) → (∀ t, t ∈ l ↔ t ∈ m) → l = m
 | [], [], _, _, _ => rfl
 | [], b :: m, _, _, h => by have := (h b).2 (List.mem_cons_self ..); cases this
 | a :: l, [], _, _, h => by have := (h a).1 (List.mem_cons_self ..); cases this
 | a :: l, b :: m, hl, hm, h => by
  have hl2 := List.pairwise_cons.1 hl
  have hm2 := List.pairwise_cons.1 hm
  have hab : a = b := by
   rcases List.mem_cons.1 ((h a).1 (List.mem_cons_self ..)) with e | h1
   ·exact e
   ·rcases List.mem_cons.1 ((h b).2 (List.mem_cons_self ..)) with e | h2
    ·exact e.symm
    ·have h3 := P6 (hm2.1 a h1) (hl2.1 b h2)
     rw [N9] at h3
     cases h3
  subst hab
  rw [AlV hl2.2 hm2.2 fun t => ⟨fun ht => ?_, fun ht => ?_⟩]
  ·rcases List.mem_cons.1 ((h t).1 (List.mem_cons_of_mem _ ht)) with e | h1
   ·have h3 := hl2.1 t ht
    rw [e, N9] at h3
    cases h3
   ·exact h1
  ·rcases List.mem_cons.1 ((h t).2 (List.mem_cons_of_mem _ ht)) with e | h1
   ·have h3 := hm2.1 t ht
    rw [e, N9] at h3
    cases h3
   ·exact h1
theorem AlT {g : Bs → Option Bs} {l m : List Bh} (hl : Ali g l) (hm : Ali g m) : l = m :=
 AlV hl.1 hm.1 fun t => by
  obtain ⟨p, k⟩ := t
  rw [hl.2, hm.2]
def Aln (a b : List Bh) (d : List Af3) (r : List Bh × Int) : Prop :=
 (AgN a b ≠ 0 → r = ([], AgN a b)) ∧ (AgN a b = 0 → Ale d [] = false → r = ([], 2)) ∧ (AgN a b = 0 → Ale d [] = true → d.all (Ald a b) = false → r = ([], 5)) ∧
 (AgN a b = 0 → Ale d [] = true → d.all (Ald a b) = true → ∃ out, Ali (Alp a b d) out ∧ r = if Fm out ≠ 0 then ([], Fm out) else (out, 0))
def Alv (P : Pg) : Prop := ∀ x : List Bh × (List Bh × List Af3), Kw x.1 → Kw x.2.1 → x.2.2.length ≤ 1000000 → (∀ t ∈ x.2.2, t.1.length ≤ 140737488351232) → Fn P "mergelens/tree.Apply" Alj x fun (r : List Bh × Int) _ => Aln x.1 x.2.1 x.2.2 r
theorem Alx : ∀ (d : List Af3) (seen : List Bs), Ale d seen = true ↔ (∀ x ∈ d, 1 ≤ x.2 ∧ x.2 ≤ 3 ∧ x.1 ∉ seen) ∧ d.Pairwise fun x y => x.1 ≠ y.1
 | [], seen => by simp [Ale]
 | x :: r, seen => by
  rw [Ale, List.pairwise_cons]
  split
  ·rename_i h
   simp only [Bool.false_eq_true, false_iff, not_and]
   intro h1 _ _
   have := h1 x (List.mem_cons_self ..)
   rcases h with h | h | h
   ·omega
   ·omega
   ·exact this.2.2 h
  ·rename_i h
   rw [Alx r]
   constructor
   ·rintro ⟨h1, h2⟩
    refine ⟨fun y hy => ?_, fun y hy e => ?_, h2⟩
    ·rcases List.mem_cons.1 hy with rfl | hy
     ·exact ⟨by omega, by omega, fun hm => h (.inr (.inr hm))⟩
     ·have := h1 y hy
      exact ⟨this.1, this.2.1, fun hm => this.2.2 (List.mem_cons_of_mem _ hm)⟩
    ·exact (h1 y hy).2.2 (by rw [← e]; exact List.mem_cons_self ..)
   ·rintro ⟨h1, h2, h3⟩
    refine ⟨fun y hy => ?_, h3⟩
    have := h1 y (List.mem_cons_of_mem _ hy)
    refine ⟨this.1, this.2.1, fun hm => ?_⟩
    rcases List.mem_cons.1 hm with e | hm
    ·exact h2 y hy e.symm
    ·exact this.2.2 hm
theorem Alr : ∀ (d : List Af3) (b : List Bh) (g : Bs → Option Bs) {p : Bs}, (∀ x ∈ d, x.1 ≠ p) → d.foldl (stepG b) g p = g p
 | [], b, g, p, _ => rfl
 | x :: r, b, g, p, h => by
  rw [List.foldl_cons, Alr r b _ fun y hy => h y (List.mem_cons_of_mem _ hy)]
  unfold stepG
  rw [if_neg fun e => h x (List.mem_cons_self ..) e.symm]
theorem AlD : ∀ (d : List Af3) (b : List Bh) (g : Bs → Option Bs) {x : Af3}, x ∈ d → (d.Pairwise fun x y => x.1 ≠ y.1) → d.foldl (stepG b) g x.1 = if x.2 = 2 then none else some ((D0 b x.1).getD [])
 | [], b, g, x, h, _ => nomatch h
 | y :: r, b, g, x, h, hp => by
  have h2 := List.pairwise_cons.1 hp
  rw [List.foldl_cons]
  rcases List.mem_cons.1 h with rfl | h
  ·rw [Alr r b _ fun z hz e => h2.1 z hz e.symm]
   unfold stepG
   rw [if_pos rfl]
  ·exact AlD r b _ h h2.2
end Go.VS
