import Derived.Test.YtdnomijflodcgaaDoorFwD
import Derived.IntWalk
import Derived.Test.YtdnomijflodcgaaDoorKGf0
import Derived.Test.YtdnomijflodcgaaDoorKGf1
/- Rules for lifted functions; numbers; lists. -/
set_option linter.unusedVariables false
set_option linter.unusedSimpArgs false
namespace Go.VS
theorem Ai.of {D : Type} {body : (D → Prop) → Prop} {rest : D → Prop} (h : body rest) : Ai body rest := ⟨rest, h, fun _ h => h⟩
theorem Ai.mid {D : Type} {body : (D → Prop) → Prop} {rest : D → Prop} (J : D → Prop) (h : body J) (h2 : ∀ d, J d → rest d) : Ai body rest := ⟨J, h, h2⟩
theorem Bl.of {D : Type} {x : D} {body : D → (D → Prop) → Prop} (I : D → Prop) (m : D → Nat) (h0 : I x) (hs : ∀ d, I d → body d fun d' => I d' ∧ m d' < m d) : Bl x body := by
 refine ⟨fun n d => I d ∧ m d = n, ⟨_, h0, rfl⟩, ?_⟩
 rintro n d ⟨hI, rfl⟩
 have : (fun d' => ∃ k, k < m d ∧ I d' ∧ m d' = k) = fun d' => I d' ∧ m d' < m d := by
  funext d'
  exact propext ⟨fun ⟨k, h1, h2, h3⟩ => ⟨h2, by omega⟩, fun ⟨h1, h2⟩ => ⟨_, h2, h1, rfl⟩⟩
 rw [this]
 exact hs d hI
theorem Fn.to {P : Pg} {nm : String} {S : Sig} {x : DP S.ps} {K K' : DP S.rs → DP (ptrs S.ps) → Prop} (h : Fn P nm S x K) (hk : ∀ d e, K d e → K' d e) : Fn P nm S x K' := h.mono hk
theorem w64 {n : Int} (h1 : -9223372036854775808 ≤ n) (h2 : n ≤ 9223372036854775807) : IntKind.i64.wrap n = n := by rw [IntKind.wrap_i64]; omega
theorem AdZ {n : Int} (h1 : 0 ≤ n) (h2 : n ≤ 18446744073709551615) : IntKind.u64.wrap n = n := by rw [IntKind.wrap_u64]; omega
theorem getD_eq {α : Type} {l : List α} {i : Nat} {d : α} (h : i < l.length) : l.getD i d = l[i] := by simp [List.getD_eq_getElem?_getD, List.getElem?_eq_getElem h]
theorem BK {α : Type} {l : List α} {i : Nat} {d : α} (h : i < l.length) : l.getD i d ∈ l := by rw [getD_eq h]; exact List.getElem_mem h
theorem Mh {α : Type} {l : List α} {i j : Nat} {x d : α} (h : i < l.length) : (l.set i x).getD j d = if i = j then x else l.getD j d := by
 simp only [List.getD_eq_getElem?_getD, List.getElem?_set]
 split
 ·rename_i e; subst e; simp [h]
 ·rfl
theorem Nr {α : Type} {l m : List α} {i : Nat} {d : α} (h : i < l.length) : (l ++ m).getD i d = l.getD i d := by
 simp [List.getD_eq_getElem?_getD, List.getElem?_append_left h]
theorem Pu {α : Type} {l : List α} {x d : α} : (l ++ [x]).getD l.length d = x := by
 simp [List.getD_eq_getElem?_getD]
theorem Pv {α : Type} {n i : Nat} {x d : α} (h : i < n) : (List.replicate n x).getD i d = x := by
 simp [List.getD_eq_getElem?_getD, h]
theorem Zz {α : Type} (d : α) {l m : List α} (h : l.length = m.length) (hi : ∀ i, i < l.length → l.getD i d = m.getD i d) : l = m := by
 refine List.ext_getElem h fun i h1 h2 => ?_
 have := hi i h1
 rwa [getD_eq h1, getD_eq h2] at this
end Go.VS

/- A number brought into a range. -/
set_option linter.unusedVariables false
set_option linter.unusedSimpArgs false
namespace Go.VS
variable {P : Pg}
@[irreducible] def FB (a n : Int) : Int := IntKind.i64.wrap (Int.tmod (IntKind.u64.wrap a) (IntKind.u64.wrap n))
theorem RR (n : Int) : 0 ≤ IntKind.u64.wrap n ∧ IntKind.u64.wrap n ≤ 18446744073709551615 := by rw [IntKind.wrap_u64]; omega
theorem DV {a n : Int} (h1 : 1 ≤ n) (h2 : n ≤ 9223372036854775807) : 0 ≤ FB a n ∧ FB a n < n := by
 unfold FB
 rw [AdZ (n := n) (by omega) (by omega)]
 have h := RR a
 rw [Int.tmod_eq_emod_of_nonneg h.1]
 have e1 := Int.emod_nonneg (IntKind.u64.wrap a) (show n ≠ 0 by omega)
 have e2 := Int.emod_lt_of_pos (IntKind.u64.wrap a) (show 0 < n by omega)
 rw [w64 (by omega) (by omega)]
 exact ⟨e1, e2⟩
def Iu (P : Pg) : Prop := ∀ x : Int × Int, 1 ≤ x.2 → x.2 ≤ 9223372036854775807 → Fn P zS1 BL x fun d _ => d = FB x.1 x.2
theorem Ac8 (h : Has P Kh) : Iu P := by
 intro x h1 h2
 refine VV h ?_
 unfold QS
 exact ⟨by rw [AdZ (by omega) (by omega)]; omega, by unfold FB; rfl⟩
theorem Iu.at (h : Iu P) {a n : Int} (h1 : 1 ≤ n) (h2 : n ≤ 9223372036854775807) {K : Int → Unit → Prop} (hk : K (FB a n) ()) : Fn P zS1 BL (a, n) K := (h (a, n) h1 h2).to fun (d : Int) e hd => by
 have hd : d = FB a n := hd
 subst hd; exact hk
end Go.VS

/- Numbers in texts; bytes. -/
set_option linter.unusedVariables false
set_option linter.unusedSimpArgs false
namespace Go.VS
variable {P : Pg}
abbrev Bs := List UInt8
end Go.VS

/- Paths: names between separators. -/
set_option linter.unusedVariables false
set_option linter.unusedSimpArgs false
namespace Go.VS
variable {P : Pg}
def spN (acc : Bs) : Bs → List Bs
 | [] => [acc]
 | b :: r => if b = 47 then acc :: spN [] r else spN (acc ++ [b]) r
def NW (n : Bs) : Bool := !(n == [] || n == [46] || n == [46, 46])
def EF (s : Bs) : Int := if s.length > 200 ∨ (0 : UInt8) ∈ s then 210 else if (spN [] s).all NW then 0 else 210
def Fb (P : Pg) : Prop := ∀ s : Bs, s.length ≤ 140737488351232 → Fn P Ab4 DJ s fun (d : Int) _ => d = EF s
theorem U9 : ∀ (l acc r : Bs), (∀ b ∈ l, b ≠ 47) → spN acc (l ++ 47 :: r) = (acc ++ l) :: spN [] r
 | [], acc, r, h => by rw [List.nil_append, spN, if_pos rfl]; simp
 | b :: l, acc, r, h => by
  rw [List.cons_append, spN, if_neg (h b (List.mem_cons_self ..)), U9 l _ r fun c hc => h c (List.mem_cons_of_mem _ hc)]
  simp
theorem Aaj : ∀ (l acc : Bs), (∀ b ∈ l, b ≠ 47) → spN acc l = [acc ++ l]
 | [], acc, h => by simp [spN]
 | b :: l, acc, h => by
  rw [spN, if_neg (h b (List.mem_cons_self ..)), Aaj l _ fun c hc => h c (List.mem_cons_of_mem _ hc)]
  simp
theorem Acb : ∀ s : Bs, (∀ b ∈ s, b ≠ 47) ∨ ∃ l r, s = l ++ 47 :: r ∧ ∀ b ∈ l, b ≠ 47
 | [] => .inl (by simp)
 | b :: s => by
  by_cases hb : b = 47
  ·subst hb; exact .inr ⟨[], s, rfl, by simp⟩
  ·rcases Acb s with h | ⟨l, r, rfl, h⟩
   ·refine .inl fun c hc => ?_
    rcases List.mem_cons.1 hc with rfl | hc
    ·exact hb
    ·exact h c hc
   ·refine .inr ⟨b :: l, r, rfl, fun c hc => ?_⟩
    rcases List.mem_cons.1 hc with rfl | hc
    ·exact hb
    ·exact h c hc
end Go.VS

/- Trees of files: in order, and none under another. -/
set_option linter.unusedVariables false
set_option linter.unusedSimpArgs false
namespace Go.VS
variable {P : Pg}
abbrev AA := Bs × Bs
def AQ : List AA → Bs → Option Bs
 | [], _ => none
 | f :: r, p => match AQ r p with
  | some v => some v
  | none => if p = f.1 then some f.2 else none
def Xn (l : List AA) (p : Bs) : Bool := (List.range p.length).any fun i => (AQ l (p.take i)).isSome && (p.getD i 0 == 47)
def PR (l : List AA) : Bool := (List.range l.length).all fun i => (i == 0 || Op.bytesLess (l.getD (i - 1) ([], [])).1 (l.getD i ([], [])).1) && !Xn l (l.getD i ([], [])).1
def Lg (P : Pg) : Prop := ∀ l : List AA, l.length ≤ 1000000 → (∀ f ∈ l, f.1.length ≤ 140737488351232 ∧ f.2.length ≤ 140737488351232) → Fn P "mergelens/tree.ordered" Fa l fun (d : Bool) _ => d = PR l
end Go.VS

/- The document's reader of paths. -/
set_option linter.unusedVariables false
set_option linter.unusedSimpArgs false
namespace Go.VS
variable {P : Pg}
theorem XW {s : Bs} {i : Nat} (h : i < s.length) : s.drop i = s.getD i 0 :: s.drop (i + 1) := by
 rw [List.drop_eq_getElem_cons h, List.getD_eq_getElem?_getD, List.getElem?_eq_getElem h, Option.getD_some]
theorem byI (b c : UInt8) : (((b.toNat : Nat) : Int) == ((c.toNat : Nat) : Int)) = (b == c) := by
 by_cases h : b = c
 ·subst h; simp
 ·rw [show (b == c) = false from beq_eq_false_iff_ne.2 h, beq_eq_false_iff_ne]
  intro e
  exact h (UInt8.toNat_inj.1 (by omega))
theorem Ad3 (b : UInt8) : (((b.toNat : Nat) : Int) == (47 : Int)) = (b == 47) := byI b 47
theorem Fb.at (h : Fb P) {s : Bs} (hs : s.length ≤ 140737488351232) {K : Int → Unit → Prop} (hk : K (EF s) ()) : Fn P Ab4 DJ s K :=
 (h s hs).to fun (d : Int) _ hd => by
  have hd : d = EF s := hd
  subst hd
  exact hk
end Go.VS

/- Numbers made of raw numbers; sets of bytes. -/
set_option linter.unusedVariables false
set_option linter.unusedSimpArgs false
namespace Go.VS
variable {P : Pg}
@[irreducible] def atX (raw : List Int) (k : Int) : Int :=
 if ((List.length raw : Nat) : Int) > 0 then (IntKind.u64.wrap ((BitVec.toNat (BitVec.ofInt IntKind.u64.bits (IntKind.u64.wrap ((IntKind.u64.wrap (IntKind.i64.wrap (k + (1 : Int)))) * (11400714819323198485 : Int))) ^^^ BitVec.ofInt IntKind.u64.bits (IntKind.u64.wrap (List.getD raw (Int.toNat (Int.tmod k ((List.length raw : Nat) : Int))) (0 : Int)))) : Nat) : Int))
 else (IntKind.u64.wrap ((IntKind.u64.wrap (IntKind.i64.wrap (k + (1 : Int)))) * (11400714819323198485 : Int)))
@[irreducible] def atY (d2 : Int) : Int := IntKind.u64.wrap ((BitVec.toNat (BitVec.ofInt IntKind.u64.bits (IntKind.u64.wrap ((IntKind.u64.wrap ((BitVec.toNat (BitVec.ofInt IntKind.u64.bits d2 ^^^ BitVec.ofInt IntKind.u64.bits (Int.fdiv d2 (2 ^ (min (Int.toNat (31 : Int)) IntKind.u64.bits)))) : Nat) : Int)) * (13787848793156543929 : Int))) ^^^ BitVec.ofInt IntKind.u64.bits (Int.fdiv (IntKind.u64.wrap ((IntKind.u64.wrap ((BitVec.toNat (BitVec.ofInt IntKind.u64.bits d2 ^^^ BitVec.ofInt IntKind.u64.bits (Int.fdiv d2 (2 ^ (min (Int.toNat (31 : Int)) IntKind.u64.bits)))) : Nat) : Int)) * (13787848793156543929 : Int))) (2 ^ (min (Int.toNat (29 : Int)) IntKind.u64.bits)))) : Nat) : Int)
@[irreducible] def atF (raw : List Int) (k : Int) : Int := IntKind.i64.wrap (Int.fdiv (atY (atX raw k)) (2 ^ (min (Int.toNat (1 : Int)) IntKind.u64.bits)))
theorem XH (raw : List Int) (k : Int) : 0 ≤ atF raw k ∧ atF raw k ≤ 9223372036854775807 := by
 unfold atF
 have e : ((2 : Int) ^ (min (Int.toNat (1 : Int)) IntKind.u64.bits)) = 2 := by decide
 rw [e]
 have h := RR ((BitVec.toNat (BitVec.ofInt IntKind.u64.bits (IntKind.u64.wrap ((IntKind.u64.wrap ((BitVec.toNat (BitVec.ofInt IntKind.u64.bits (atX raw k) ^^^ BitVec.ofInt IntKind.u64.bits (Int.fdiv (atX raw k) (2 ^ (min (Int.toNat (31 : Int)) IntKind.u64.bits)))) : Nat) : Int)) * (13787848793156543929 : Int))) ^^^ BitVec.ofInt IntKind.u64.bits (Int.fdiv (IntKind.u64.wrap ((IntKind.u64.wrap ((BitVec.toNat (BitVec.ofInt IntKind.u64.bits (atX raw k) ^^^ BitVec.ofInt IntKind.u64.bits (Int.fdiv (atX raw k) (2 ^ (min (Int.toNat (31 : Int)) IntKind.u64.bits)))) : Nat) : Int)) * (13787848793156543929 : Int))) (2 ^ (min (Int.toNat (29 : Int)) IntKind.u64.bits)))) : Nat) : Int)
 have e2 : 0 ≤ atY (atX raw k) ∧ atY (atX raw k) ≤ 18446744073709551615 := by unfold atY; exact h
 clear h
 have h := e2
 clear e2
 generalize atY (atX raw k) = u at h ⊢
 rw [Int.fdiv_eq_ediv_of_nonneg u (by omega)]
 rw [w64 (by omega) (by omega)]
 omega
def KV (P : Pg) : Prop := ∀ x : List Int × Int, 0 ≤ x.2 → Fn P zS0 Ba x fun d _ => d = atF x.1 x.2
theorem AdR (h : Has P LL) : KV P := by
 intro x h1
 refine X4 h ?_
 unfold Tn
 refine Ai.mid (fun d => d = atX x.1 x.2) ⟨fun hc => ?_, fun hc => ?_⟩ fun d hd => ⟨by decide, by decide, by decide, ?_⟩
 ·have hc : ((List.length x.1 : Nat) : Int) > 0 := of_decide_eq_true hc
  have e1 : (Int.tmod x.2 ((List.length x.1 : Nat) : Int)) = x.2 % (List.length x.1 : Nat) := Int.tmod_eq_emod_of_nonneg h1
  have e2 := Int.emod_nonneg x.2 (show ((List.length x.1 : Nat) : Int) ≠ 0 by omega)
  have e3 := Int.emod_lt_of_pos x.2 hc
  refine ⟨by omega, by omega, by omega, ?_⟩
  unfold atX
  rw [if_pos hc]
 ·have hc : ¬ ((List.length x.1 : Nat) : Int) > 0 := of_decide_eq_false hc
  unfold atX
  rw [if_neg hc]
 ·subst hd; unfold atF atY; rfl
theorem KV.at (h : KV P) {raw : List Int} {k : Int} (h1 : 0 ≤ k) {K : Int → Unit → Prop} (hk : K (atF raw k) ()) : Fn P zS0 Ba (raw, k) K := (h (raw, k) h1).to fun (d : Int) e hd => by
 have hd : d = atF raw k := hd
 subst hd; exact hk
end Go.VS

/- The lines of a text. -/
set_option linter.unusedVariables false
set_option linter.unusedSimpArgs false
namespace Go.VS
variable {P : Pg}
def lnN (acc : Bs) : Bs → List Bs
 | [] => []
 | b :: r => if b = 10 ∨ r = [] then (acc ++ [b]) :: lnN [] r else lnN (acc ++ [b]) r
def lnF (s : Bs) : List Bs := lnN [] s
def Ld (P : Pg) : Prop := ∀ s : Bs, s.length ≤ 100000000 → Fn P AaC Dc s fun (d : List Bs) _ => d = lnF s
theorem AdT {s : Bs} {i : Nat} (h : i < s.length) : List.take (i + 1) s = List.take i s ++ [s.getD i 0] := by
 rw [List.take_add_one, List.getElem?_eq_getElem h, List.getD_eq_getElem?_getD, List.getElem?_eq_getElem h]
 rfl
theorem Wz (h : Has P FT) : Ld P := by
 intro s hs
 refine Pm h ?_
 unfold K4
 refine Ai.mid (fun q => q = lnF s) ?_ fun q hq => hq
 refine Bl.of (fun q => 0 ≤ q.2.1 ∧ q.2.1 ≤ q.2.2 ∧ q.2.2 ≤ s.length ∧ (q.1.length : Int) ≤ q.2.2 ∧ q.1 ++ lnN (List.drop q.2.1.toNat (List.take q.2.2.toNat s)) (s.drop q.2.2.toNat) = lnF s) (fun q => (s.length - q.2.2).toNat) ⟨by decide, by decide, by dsimp only; omega, by simp, by simp [lnF]⟩ ?_
 rintro ⟨o, f, i⟩ ⟨f0, f1, i1, ho, e⟩
 dsimp only at f0 f1 i1 ho e ⊢
 refine ⟨fun hc => ?_, fun hc => ?_⟩
 ·have hc := of_decide_eq_true hc
  rw [w64 (n := i + 1) (by omega) (by omega)]
  have hi : i.toNat < s.length := by omega
  have hd : s.drop i.toNat = s.getD i.toNat 0 :: s.drop (i.toNat + 1) := by
   rw [List.drop_eq_getElem_cons hi, List.getD_eq_getElem?_getD, List.getElem?_eq_getElem hi, Option.getD_some]
  have e1 : (i + 1).toNat = i.toNat + 1 := by omega
  have hdr : List.drop f.toNat (List.take (i.toNat + 1) s) = List.drop f.toNat (List.take i.toNat s) ++ [s.getD i.toNat 0] := by
   rw [AdT hi, List.drop_append_of_le_length (by rw [List.length_take]; omega)]
  rw [hd, lnN] at e
  have hnil : s.drop (i.toNat + 1) = [] ↔ i + 1 = s.length := by
   rw [List.drop_eq_nil_iff]; omega
  refine Ai.mid (fun q => 0 ≤ q.2 ∧ q.2 ≤ i + 1 ∧ (q.1.length : Int) ≤ i + 1 ∧ q.1 ++ lnN (List.drop q.2.toNat (List.take (i.toNat + 1) s)) (s.drop (i.toNat + 1)) = lnF s) ⟨⟨by omega, hc⟩, Ai.of ⟨fun hb => ?_, fun hb => ?_⟩⟩ ?_
  ·rw [if_pos (by
    simp at hb
    rcases hb with hb | hb
    ·refine Or.inl ?_
     rw [List.getD_eq_getElem?_getD]
     exact UInt8.toNat_inj.1 (by rw [show (10 : UInt8).toNat = 10 from rfl]; omega)
    ·exact Or.inr (hnil.2 hb))] at e
   refine ⟨⟨f0, by omega, by omega⟩, by simp only [List.length_cons, List.length_nil]; omega, by dsimp only; omega, by dsimp only; omega, ?_, ?_⟩
   ·simp only [List.length_append, List.length_cons, List.length_nil]; omega
   ·dsimp only
    rw [e1, hdr, show List.drop (i.toNat + 1) (List.take (i.toNat + 1) s) = [] by rw [List.drop_eq_nil_iff, List.length_take]; omega, ← e]
    simp only [List.append_assoc, List.singleton_append]
  ·rw [if_neg (by
    simp at hb
    rintro (hh | hh)
    ·rw [List.getD_eq_getElem?_getD] at hh
     exact hb.1 (by rw [hh]; rfl)
    ·exact hb.2 (hnil.1 hh))] at e
   refine ⟨f0, by dsimp only; omega, by dsimp only; omega, ?_⟩
   dsimp only
   rw [hdr]
   exact e
  ·rintro ⟨o', f'⟩ ⟨k1, k2, k3, k4⟩
   dsimp only at k1 k2 k3 k4 ⊢
   exact ⟨⟨k1, k2, by omega, k3, by rw [e1]; exact k4⟩, by omega⟩
 ·have hc := of_decide_eq_false hc
  rw [show i.toNat = s.length by omega, List.drop_length, lnN, List.append_nil] at e
  exact e
end Go.VS

/- Texts as the library cuts them into lines. -/
set_option linter.unusedVariables false
set_option linter.unusedSimpArgs false
namespace Go.VS
variable {P : Pg}
def saN (acc : Bs) : Bs → List Bs
 | [] => [acc]
 | b :: r => if b = 10 then (acc ++ [b]) :: saN [] r else saN (acc ++ [b]) r
def saF (s : Bs) : List Bs := saN [] s
def Mb (s : Bs) : Bool := ([10] : Bs).isSuffixOf s
def GM (P : Pg) : Prop := ∀ s : Bs, Fn P "strings.Count" D3 (s, [10]) fun (d : Int) _ => d = ((s.count 10 : Nat) : Int)
def F4 (P : Pg) : Prop := ∀ s : Bs, s.length ≤ 140737488351232 → Fn P "strings.HasSuffix" CZ (s, [10]) fun (d : Bool) _ => d = Mb s
def Gc (P : Pg) : Prop := ∀ s : Bs, s.length ≤ 4000000000 → Fn P "strings.SplitAfter" F0 (s, [10]) fun (d : List Bs) _ => d = saF s
theorem GM.at (h : GM P) {s : Bs} {K : Int → Unit → Prop} (hk : K ((s.count 10 : Nat) : Int) ()) : Fn P "strings.Count" D3 (s, [10]) K :=
 (h s).to fun (d : Int) _ hd => by
  have hd : d = ((s.count 10 : Nat) : Int) := hd
  subst hd
  exact hk
theorem F4.at (h : F4 P) {s : Bs} (hs : s.length ≤ 140737488351232) {K : Bool → Unit → Prop} (hk : K (Mb s) ()) : Fn P "strings.HasSuffix" CZ (s, [10]) K :=
 (h s hs).to fun (d : Bool) _ hd => by
  have hd : d = Mb s := hd
  subst hd
  exact hk
theorem Gc.at (h : Gc P) {s : Bs} (hs : s.length ≤ 4000000000) {K : List Bs → Unit → Prop} (hk : K (saF s) ()) : Fn P "strings.SplitAfter" F0 (s, [10]) K :=
 (h s hs).to fun (d : List Bs) _ hd => by
  have hd : d = saF s := hd
  subst hd
  exact hk
theorem Nh (l : Bs) (b : UInt8) : Mb (l ++ [b]) = (b == 10) := by
 unfold Mb
 by_cases h : b = 10
 ·subst h
  rw [show ((10 : UInt8) == 10) = true from rfl, List.isSuffixOf_iff_suffix]
  exact List.suffix_append ..
 ·rw [show (b == 10) = false by simpa using h, Bool.eq_false_iff]
  intro hs
  rw [List.isSuffixOf_iff_suffix] at hs
  obtain ⟨t, ht⟩ := hs
  have := congrArg List.getLast? ht
  simp at this
  exact h this.symm
theorem SE : ∀ (s acc : Bs), (lnN acc s).length = s.count 10 + (if s ≠ [] ∧ Mb s = false then 1 else 0)
 | [], acc => by rw [if_neg (by simp)]; rfl
 | b :: r, acc => by
  rw [lnN]
  rcases List.eq_nil_or_concat r with rfl | ⟨l, c, rfl⟩
  ·rw [if_pos (.inr rfl), show [b] = ([] : Bs) ++ [b] from rfl, Nh]
   by_cases hb : b = 10
   ·subst hb; rfl
   ·rw [show (b == 10) = false by simpa using hb]
    simp [lnN, hb]
  ·have e1 : Mb (b :: l.concat c) = Mb (l.concat c) := by
    rw [List.concat_eq_append, ← List.cons_append, Nh, Nh]
   have hne : l.concat c ≠ [] := by simp
   by_cases hb : b = 10
   ·subst hb
    rw [if_pos (.inl rfl), List.length_cons, SE (l.concat c) [], e1, List.count_cons_self]
    simp only [ne_eq, hne, not_false_eq_true, true_and, List.cons_ne_nil]
    omega
   ·rw [if_neg (by rintro (h1 | h1); exact hb h1; exact hne h1), SE (l.concat c) _, e1, List.count_cons_of_ne (by simpa using hb)]
    simp only [ne_eq, hne, not_false_eq_true, true_and, List.cons_ne_nil]
theorem Xj (s : Bs) : (lnF s).length = s.count 10 + (if s ≠ [] ∧ Mb s = false then 1 else 0) := SE s []
def M5 (P : Pg) : Prop := ∀ s : Bs, s.length ≤ 140737488351232 → Fn P AaK Dw s fun (d : Bool) _ => d = Mb s
theorem YI (h : Has P Gs) (hS : F4 P) : M5 P := by
 intro s hs
 refine QC h ?_
 unfold LV
 exact hS.at hs rfl
def Jg (s : Bs) : Int := if s.length > 1048576 ∨ (lnF s).length > 4096 then 1 else 0
def M4 (P : Pg) : Prop := ∀ s : Bs, s.length ≤ 140737488351232 → Fn P AaL Dv s fun (d : Int) _ => d = Jg s
theorem YH (h : Has P Gr) (hC : GM P) (hE : M5 P) : M4 P := by
 intro s hs
 refine QB h ?_
 unfold LU
 refine hC.at ?_
 have hcl := List.count_le_length (a := (10 : UInt8)) (l := s)
 have hl := Xj s
 refine Ai.mid (fun d => (!(s == ([] : Bs))) = true → d = Mb s) ⟨fun _ => (hE s hs).to fun (d : Bool) _ hd _ => hd, (by intro hc hc2; rw [hc] at hc2; cases hc2), trivial⟩ ?_
 intro d hd
 have hfin : ∀ n : Int, n = ((lnF s).length : Nat) → ((cond (decide (((List.length s : Nat) : Int) > (1048576 : Int))) true (decide (n > (4096 : Int)))) = true → (1 : Int) = Jg s) ∧ ((cond (decide (((List.length s : Nat) : Int) > (1048576 : Int))) true (decide (n > (4096 : Int)))) = false → (0 : Int) = Jg s) := by
  rintro n rfl
  unfold Jg
  by_cases h1 : s.length > 1048576
  ·have e1 : decide (((List.length s : Nat) : Int) > (1048576 : Int)) = true := decide_eq_true (by omega)
   rw [e1, if_pos (.inl h1)]
   exact ⟨fun _ => rfl, fun h => nomatch h⟩
  ·have e1 : decide (((List.length s : Nat) : Int) > (1048576 : Int)) = false := decide_eq_false (by omega)
   rw [e1, cond_false]
   by_cases h2 : (lnF s).length > 4096
   ·rw [if_pos (.inr h2), show decide ((((lnF s).length : Nat) : Int) > 4096) = true from decide_eq_true (by omega)]
    exact ⟨fun _ => rfl, fun h => nomatch h⟩
   ·rw [if_neg (by omega), show decide ((((lnF s).length : Nat) : Int) > 4096) = false from decide_eq_false (by omega)]
    exact ⟨(fun h => nomatch h), fun _ => rfl⟩
 refine Ai.mid (fun n => n = ((lnF s).length : Nat)) ⟨fun hc => ?_, fun hc => ?_⟩ hfin
 ·by_cases hn : s = []
  ·subst hn; cases hc
  ·have hb : (!(s == ([] : Bs))) = true := by simpa using hn
   rw [hb, cond_true] at hc
   have he : Mb s = false := by rw [← hd hb]; simpa using hc
   rw [w64 (by omega) (by omega), hl, if_pos ⟨hn, he⟩]
   omega
 ·by_cases hn : s = []
  ·subst hn; rfl
  ·have hb : (!(s == ([] : Bs))) = true := by simpa using hn
   rw [hb, cond_true] at hc
   have he : Mb s = true := by rw [← hd hb]; simpa using hc
   rw [hl, if_neg (by rw [he]; simp)]
   omega
end Go.VS

/- Trees: which are valid. -/
set_option linter.unusedVariables false
set_option linter.unusedSimpArgs false
namespace Go.VS
variable {P : Pg}
theorem E0 : ∀ x : Bs, Op.bytesLess x x = false
 | [] => rfl
 | a :: x => by
  unfold Op.bytesLess
  rw [E0 x]
  simp
theorem H3 : ∀ {x y z : Bs}, Op.bytesLess x y = true → Op.bytesLess y z = true → Op.bytesLess x z = true
 | x, y, [], _, h2 => by unfold Op.bytesLess at h2; cases y <;> cases h2
 | x, [], c :: z, h1, _ => by unfold Op.bytesLess at h1; cases x <;> cases h1
 | [], b :: y, c :: z, _, _ => rfl
 | a :: x, b :: y, c :: z, h1, h2 => by
  unfold Op.bytesLess at h1 h2 ⊢
  simp only [Bool.or_eq_true, Bool.and_eq_true, decide_eq_true_eq, beq_iff_eq] at h1 h2 ⊢
  rcases h1 with h1 | ⟨rfl, h1⟩
  ·rcases h2 with h2 | ⟨rfl, h2⟩
   ·exact .inl (UInt8.lt_trans h1 h2)
   ·exact .inl h1
  ·rcases h2 with h2 | ⟨rfl, h2⟩
   ·exact .inl h2
   ·exact .inr ⟨rfl, H3 h1 h2⟩
theorem O4 : ∀ {x y : Bs}, x ≠ y → Op.bytesLess x y = true ∨ Op.bytesLess y x = true
 | [], [], h => absurd rfl h
 | [], b :: y, _ => .inl rfl
 | a :: x, [], _ => .inr rfl
 | a :: x, b :: y, h => by
  unfold Op.bytesLess
  simp only [Bool.or_eq_true, Bool.and_eq_true, decide_eq_true_eq, beq_iff_eq]
  by_cases hab : a = b
  ·subst hab
   rcases O4 (x := x) (y := y) (fun e => h (by rw [e])) with h1 | h1
   ·exact .inl (.inr ⟨rfl, h1⟩)
   ·exact .inr (.inr ⟨rfl, h1⟩)
  ·rcases UInt8.lt_or_lt_of_ne hab with h1 | h1
   ·exact .inl (.inl h1)
   ·exact .inr (.inl h1)
theorem QY : ∀ (x : Bs) (b : UInt8) (r : Bs), Op.bytesLess x (x ++ b :: r) = true
 | [], b, r => rfl
 | a :: x, b, r => by
  rw [List.cons_append]
  unfold Op.bytesLess
  rw [QY x b r]
  simp
theorem Aa0 {p : Bs} {j : Nat} (h : j < p.length) : Op.bytesLess (p.take j) p = true := by
 have := QY (p.take j) (p.getD j 0) (p.drop (j + 1))
 rwa [← XW h, List.take_append_drop] at this
def RX (a b : Bs) : Bool := cond (cond (decide (((List.length b : Nat) : Int) > ((List.length a : Nat) : Int))) ((List.take (Int.toNat ((List.length a : Nat) : Int)) b) == a) false) (((UInt8.toNat (List.getD b (Int.toNat ((List.length a : Nat) : Int)) 0) : Nat) : Int) == (47 : Int)) false
theorem QT {a b : Bs} : RX a b = true ↔ a.length < b.length ∧ b.take a.length = a ∧ b.getD a.length 0 = 47 := by
 unfold RX
 rw [show Int.toNat ((List.length a : Nat) : Int) = a.length from rfl, Ad3]
 by_cases h : a.length < b.length
 ·rw [show decide (((List.length b : Nat) : Int) > ((List.length a : Nat) : Int)) = true from decide_eq_true (by omega), cond_true]
  by_cases h2 : b.take a.length = a
  ·rw [h2, show (a == a) = true from beq_self_eq_true a, cond_true]
   simp [h]
  ·rw [show (List.take a.length b == a) = false from beq_eq_false_iff_ne.2 h2]
   simp [h2]
 ·rw [show decide (((List.length b : Nat) : Int) > ((List.length a : Nat) : Int)) = false from decide_eq_false (by omega)]
  simp [h]
theorem D8 : ∀ (l : List AA) (p : Bs), (AQ l p).isSome = true ↔ ∃ f ∈ l, f.1 = p
 | [], p => by simp [AQ]
 | f :: r, p => by
  have ih := D8 r p
  rw [AQ]
  cases hb : AQ r p with
  | some v =>
   rw [hb] at ih
   simp only [Option.isSome_some, true_iff] at ih ⊢
   obtain ⟨g, hg, e⟩ := ih
   exact ⟨g, List.mem_cons_of_mem _ hg, e⟩
  | none =>
   rw [hb] at ih
   dsimp only
   by_cases hp : p = f.1
   ·rw [if_pos hp]
    simp only [Option.isSome_some, true_iff]
    exact ⟨f, List.mem_cons_self .., hp.symm⟩
   ·rw [if_neg hp]
    simp only [Option.isSome_none, Bool.false_eq_true, false_iff]
    rintro ⟨g, hg, e⟩
    rcases List.mem_cons.1 hg with rfl | hg
    ·exact hp e.symm
    ·have := ih.2 ⟨g, hg, e⟩
     cases this
abbrev pth (l : List AA) (i : Nat) : Bs := (l.getD i ([], [])).1
def JK (l : List AA) : Prop := ∀ i, i < l.length → ∀ k, k < i → Op.bytesLess (pth l k) (pth l i) = true ∧ RX (pth l k) (pth l i) = false
theorem UG (l : List AA) : PR l = true ↔ JK l := by
 unfold PR
 rw [List.all_eq_true]
 constructor
 ·intro h
  have hadj : ∀ i, 0 < i → i < l.length → Op.bytesLess (pth l (i - 1)) (pth l i) = true := fun i h0 hi => by
   have := h i (List.mem_range.2 hi)
   simp only [Bool.and_eq_true, Bool.or_eq_true, beq_iff_eq] at this
   rcases this.1 with h1 | h1
   ·omega
   ·exact h1
  have hch : ∀ i, i < l.length → ∀ k, k < i → Op.bytesLess (pth l k) (pth l i) = true := by
   intro i
   induction i with
   | zero => intro _ k hk; omega
   | succ i ih =>
    intro hi k hk
    have h1 := hadj (i + 1) (by omega) hi
    rw [Nat.add_sub_cancel] at h1
    by_cases hki : k = i
    ·subst hki; exact h1
    ·exact H3 (ih (by omega) k (by omega)) h1
  intro i hi k hk
  refine ⟨hch i hi k hk, ?_⟩
  rw [Bool.eq_false_iff]
  intro ha
  obtain ⟨a1, a2, a3⟩ := QT.1 ha
  have hn := h i (List.mem_range.2 hi)
  simp only [Bool.and_eq_true, Bool.not_eq_true'] at hn
  have hn := hn.2
  unfold Xn at hn
  rw [List.any_eq_false] at hn
  refine hn (pth l k).length (List.mem_range.2 a1) ?_
  rw [Bool.and_eq_true]
  refine ⟨(D8 l _).2 ⟨l.getD k ([], []), BK (by omega), a2.symm⟩, beq_iff_eq.2 a3⟩
 ·intro h i hi
  have hi := List.mem_range.1 hi
  simp only [Bool.and_eq_true, Bool.or_eq_true, beq_iff_eq, Bool.not_eq_true']
  refine ⟨?_, ?_⟩
  ·by_cases h0 : i = 0
   ·exact .inl h0
   ·exact .inr (h i hi (i - 1) (by omega)).1
  ·unfold Xn
   rw [List.any_eq_false]
   intro j hj hb
   have hj : j < (pth l i).length := List.mem_range.1 hj
   rw [Bool.and_eq_true] at hb
   obtain ⟨hb1, hb2⟩ := hb
   obtain ⟨f, hf, hfe⟩ := (D8 l _).1 hb1
   obtain ⟨m, hm⟩ := List.getElem?_of_mem hf
   have hml : m < l.length := (List.getElem?_eq_some_iff.1 hm).1
   have hpm : pth l m = (pth l i).take j := by
    unfold pth
    rw [List.getD_eq_getElem?_getD, hm]
    exact hfe
   have hlen : ((pth l i).take j).length = j := by rw [List.length_take]; exact Nat.min_eq_left (by omega)
   rcases Nat.lt_trichotomy m i with h1 | h1 | h1
   ·have := (h i hi m h1).2
    rw [Bool.eq_false_iff] at this
    refine this (QT.2 ⟨by rw [hpm, hlen]; exact hj, by rw [hpm, hlen], by rw [hpm, hlen]; exact beq_iff_eq.1 hb2⟩)
   ·subst h1
    have := congrArg List.length hpm
    rw [hlen] at this
    exact absurd hj (by rw [this]; exact Nat.lt_irrefl _)
   ·have h2 := (h m hml i h1).1
    have h3 := Aa0 hj
    rw [← hpm] at h3
    have h4 := E0 (pth l i)
    rw [H3 h2 h3] at h4
    cases h4
def Ex (l : List AA) : Int :=
 if l.length > 200 then 1 else if l.all (fun f => EF f.1 == 0) = false then 210 else if PR l = false then 211 else if l.all (fun f => Jg f.2 == 0) = false then 1 else 0
def Fk (l : List AA) : Prop := l.length ≤ 1000000 ∧ ∀ f ∈ l, f.1.length ≤ 140737488351232 ∧ f.2.length ≤ 140737488351232
theorem Fk.at {l : List AA} (h : Fk l) {i : Nat} (hi : i < l.length) : (l.getD i ([], [])).1.length ≤ 140737488351232 ∧ (l.getD i ([], [])).2.length ≤ 140737488351232 := h.2 _ (BK hi)
def Vw (P : Pg) : Prop := ∀ f : AA, f.1.length ≤ 140737488351232 → Fn P AaA CJ f fun (d : Bool) _ => d = (EF f.1 != 0)
theorem Ac9 (h : Has P E8) (hC : Fb P) : Vw P := by
 intro f hf
 refine Oi h ?_
 unfold Jo
 exact hC.at hf rfl
def Vx (P : Pg) : Prop := ∀ f : AA, f.2.length ≤ 140737488351232 → Fn P AaB CL f fun (d : Bool) _ => d = (Jg f.2 != 0)
theorem Ada (h : Has P E9) (hC : M4 P) : Vx P := by
 intro f hf
 refine Oj h ?_
 unfold Jp
 refine (hC _ hf).to ?_
 rintro (d : Int) _ hd
 have hd : d = Jg f.2 := hd
 rw [hd]
def Vy (P : Pg) : Prop := ∀ l : List AA, Fk l → Fn P zS5 Aw (l, ()) fun (d : Int) _ => decide (d ≥ 0) = l.any fun f => EF f.1 != 0
theorem Y2 {α : Type} {l : List α} {p : α → Bool} {i : Nat} {d : α} (hi : i < l.length) (h : p (l.getD i d) = true) : l.any p = true := List.any_eq_true.2 ⟨_, BK hi, h⟩
theorem Y4 {α : Type} {l : List α} {p : α → Bool} {d : α} (h : ∀ j, j < l.length → p (l.getD j d) = false) : l.any p = false := by
 rw [List.any_eq_false]
 intro x hx
 obtain ⟨j, hj⟩ := List.getElem?_of_mem hx
 have hl : j < l.length := (List.getElem?_eq_some_iff.1 hj).1
 have := h j hl
 rw [List.getD_eq_getElem?_getD, hj, Option.getD_some] at this
 rw [this]; simp
theorem Adb (h : Has P A1) (hC : Vw P) : Vy P := by
 intro l hl
 refine De h ?_
 unfold BZ
 dsimp only
 refine Ai.mid (fun _ => (l.any fun f => EF f.1 != 0) = false) ?_ fun _ h => by rw [h]; rfl
 refine Bl.of (fun q => (0 ≤ q.2 ∧ q.2 ≤ l.length) ∧ ∀ j, j < q.2.toNat → (EF (l.getD j ([], [])).1 != 0) = false) (fun q => (l.length - q.2).toNat) ⟨⟨Int.le_refl _, by dsimp only; omega⟩, fun j hj => absurd hj (by simp)⟩ ?_
 rintro ⟨q, i⟩ ⟨⟨i0, i1⟩, hq⟩
 dsimp only at i0 i1 hq ⊢
 have hln := hl.1
 refine ⟨fun hi => ?_, fun hi => ?_⟩
 ·have hi := of_decide_eq_true hi
  have hi2 : i.toNat < l.length := by omega
  refine Ai.mid (fun _ => (EF (l.getD i.toNat ([], [])).1 != 0) = false) ⟨⟨i0, hi⟩, hi2, (hC _ (hl.at hi2).1).to ?_⟩ fun _ hn => ?_
  ·rintro (d : Bool) _ hd
   have hd : d = _ := hd
   subst hd
   refine ⟨fun hb => ?_, fun hb => hb⟩
   rw [Y2 (d := ([], [])) hi2 hb, decide_eq_true (by omega)]
  ·rw [w64 (by omega) (by omega)]
   refine ⟨⟨⟨by omega, by omega⟩, fun j hj => ?_⟩, by omega⟩
   by_cases hji : j = i.toNat
   ·subst hji; exact hn
   ·exact hq j (by omega)
 ·have hi := of_decide_eq_false hi
  exact Y4 (d := ([], [])) fun j hj => hq j (by omega)
def Vz (P : Pg) : Prop := ∀ l : List AA, Fk l → Fn P zS5 Ax (l, ()) fun (d : Int) _ => decide (d ≥ 0) = l.any fun f => Jg f.2 != 0
theorem Adc (h : Has P A2) (hC : Vx P) : Vz P := by
 intro l hl
 refine Df h ?_
 unfold B0
 dsimp only
 refine Ai.mid (fun _ => (l.any fun f => Jg f.2 != 0) = false) ?_ fun _ h => by rw [h]; rfl
 refine Bl.of (fun q => (0 ≤ q.2 ∧ q.2 ≤ l.length) ∧ ∀ j, j < q.2.toNat → (Jg (l.getD j ([], [])).2 != 0) = false) (fun q => (l.length - q.2).toNat) ⟨⟨Int.le_refl _, by dsimp only; omega⟩, fun j hj => absurd hj (by simp)⟩ ?_
 rintro ⟨q, i⟩ ⟨⟨i0, i1⟩, hq⟩
 dsimp only at i0 i1 hq ⊢
 have hln := hl.1
 refine ⟨fun hi => ?_, fun hi => ?_⟩
 ·have hi := of_decide_eq_true hi
  have hi2 : i.toNat < l.length := by omega
  refine Ai.mid (fun _ => (Jg (l.getD i.toNat ([], [])).2 != 0) = false) ⟨⟨i0, hi⟩, hi2, (hC _ (hl.at hi2).2).to ?_⟩ fun _ hn => ?_
  ·rintro (d : Bool) _ hd
   have hd : d = _ := hd
   subst hd
   refine ⟨fun hb => ?_, fun hb => hb⟩
   rw [Y2 (d := ([], [])) hi2 hb, decide_eq_true (by omega)]
  ·rw [w64 (by omega) (by omega)]
   refine ⟨⟨⟨by omega, by omega⟩, fun j hj => ?_⟩, by omega⟩
   by_cases hji : j = i.toNat
   ·subst hji; exact hn
   ·exact hq j (by omega)
 ·have hi := of_decide_eq_false hi
  exact Y4 (d := ([], [])) fun j hj => hq j (by omega)
def VA (P : Pg) : Prop := ∀ l : List AA, Fk l → Fn P zS6 Ar (l, ()) fun (d : Bool) _ => d = l.any fun f => EF f.1 != 0
theorem Ade (h : Has P AW) (hI : Vy P) : VA P := by
 intro l hl
 refine CW h ?_
 unfold BM
 exact (hI l hl).to fun (d : Int) _ hd => hd
def VB (P : Pg) : Prop := ∀ l : List AA, Fk l → Fn P zS6 Au (l, ()) fun (d : Bool) _ => d = l.any fun f => Jg f.2 != 0
theorem Adf (h : Has P AX) (hI : Vz P) : VB P := by
 intro l hl
 refine CX h ?_
 unfold BN
 exact (hI l hl).to fun (d : Int) _ hd => hd
theorem Y3 {α : Type} (l : List α) (p : α → Int) : (l.any fun f => p f != 0) = !(l.all fun f => p f == 0) := by
 induction l with
 | nil => rfl
 | cons a l ih => rw [List.any_cons, List.all_cons, ih, Bool.not_and]; rfl
def Et (P : Pg) : Prop := ∀ l : List AA, Fk l → Fn P zS2 BQ l fun (d : Int) _ => d = Ex l
theorem S8 (h : Has P E7) (h1 : VA P) (hO : Lg P) (h2 : VB P) : Et P := by
 intro l hl
 refine K6 h ?_
 unfold Iw
 unfold Ex
 refine Ai.mid (fun _ => l.length ≤ 200 ∧ l.all (fun f => EF f.1 == 0) = true ∧ PR l = true ∧ l.all (fun f => Jg f.2 == 0) = true) ?_ fun _ hh => by
  obtain ⟨a1, a2, a3, a4⟩ := hh
  rw [if_neg (by omega), if_neg (by rw [a2]; simp), if_neg (by rw [a3]; simp), if_neg (by rw [a4]; simp)]
 refine ⟨fun hc => ?_, fun hc => ?_⟩
 ·have hc := of_decide_eq_true hc
  rw [if_pos (by omega)]
 have hc := of_decide_eq_false hc
 rw [if_neg (by omega)]
 refine (h1 l hl).to ?_
 rintro (d : Bool) _ hd
 have hd : d = _ := hd
 rw [Y3 l fun f => EF f.1] at hd
 subst hd
 refine ⟨fun hb => ?_, fun hb => ?_⟩
 ·rw [if_pos (by simpa using hb)]
 have hb : l.all (fun f => EF f.1 == 0) = true := by simpa using hb
 rw [if_neg (by rw [hb]; simp)]
 refine (hO l hl.1 hl.2).to ?_
 rintro (d : Bool) _ hd
 have hd : d = PR l := hd
 subst hd
 refine ⟨fun hb2 => ?_, fun hb2 => ?_⟩
 ·rw [if_pos (by simpa using hb2)]
 have hb2 : PR l = true := by simpa using hb2
 rw [if_neg (by rw [hb2]; simp)]
 refine (h2 l hl).to ?_
 rintro (d : Bool) _ hd
 have hd : d = _ := hd
 rw [Y3 l fun f => Jg f.2] at hd
 subst hd
 refine ⟨fun hb3 => ?_, fun hb3 => ?_⟩
 ·rw [if_pos (by simpa using hb3)]
 have hb3 : l.all (fun f => Jg f.2 == 0) = true := by simpa using hb3
 exact ⟨by omega, hb, hb2, hb3⟩
theorem Et.at (h : Et P) {l : List AA} (hl : Fk l) {K : Int → Unit → Prop} (hk : K (Ex l) ()) : Fn P zS2 BQ l K :=
 (h l hl).to fun (d : Int) _ hd => by
  have hd : d = Ex l := hd
  subst hd
  exact hk
end Go.VS

/- Graphs: who reaches whom; the document's marking. -/
set_option linter.unusedVariables false
set_option linter.unusedSimpArgs false
namespace Go.VS
variable {P : Pg}
abbrev Aq := List Int × (Int × List AA)
def BF (g : List Aq) (c : Int) : List Int := (g.getD c.toNat ([], (0, []))).1
def inR (g : List Aq) (c : Int) : Prop := 0 ≤ c ∧ c < g.length
def Vl (g : List Aq) : Prop := ∀ c, inR g c → ∀ p ∈ BF g c, inR g p
inductive Rch (g : List Aq) : Int → Int → Prop
 | refl (c : Int) : Rch g c c
 | step {c p x : Int} (h : p ∈ BF g c) (t : Rch g p x) : Rch g c x
theorem Rch.trans {g : List Aq} {a b c : Int} (h : Rch g a b) (k : Rch g b c) : Rch g a c := by
 induction h with
 | refl => exact k
 | step h _ ih => exact .step h (ih k)
theorem Rch.inR {g : List Aq} (hv : Vl g) {a b : Int} (h : Rch g a b) (ha : inR g a) : Go.VS.inR g b := by
 induction h with
 | refl => exact ha
 | step h _ ih => exact ih (hv _ ha _ h)
end Go.VS

/- The differences of two trees: what they are, and that they are one list. -/
set_option linter.unusedVariables false
set_option linter.unusedSimpArgs false
namespace Go.VS
variable {P : Pg}
abbrev AE := Bs × Int
def Mo (a b : List AA) (p : Bs) : Option Int := match AQ a p, AQ b p with
 | none, some _ => some 1
 | some _, none => some 2
 | some x, some y => if x = y then none else some 3
 | none, none => none
def YM (l : List AE) : Prop := l.Pairwise fun x y => Op.bytesLess x.1 y.1 = true
theorem S9 : ∀ {l m : List AE}, YM l → YM m → (∀ t, t ∈ l ↔ t ∈ m) → l = m
 | [], [], _, _, _ => rfl
 | [], b :: m, _, _, h => by have := (h b).2 (List.mem_cons_self ..); cases this
 | a :: l, [], _, _, h => by have := (h a).1 (List.mem_cons_self ..); cases this
 | a :: l, b :: m, hl, hm, h => by
  have hl2 := List.pairwise_cons.1 hl
  have hm2 := List.pairwise_cons.1 hm
  have hab : a = b := by
   rcases List.mem_cons.1 ((h a).1 (List.mem_cons_self ..)) with e | h1
   ·exact e
   ·rcases List.mem_cons.1 ((h b).2 (List.mem_cons_self ..)) with e | h2
    ·exact e.symm
    ·have h3 := H3 (hm2.1 a h1) (hl2.1 b h2)
     rw [E0] at h3
     cases h3
  subst hab
  rw [S9 hl2.2 hm2.2 fun t => ⟨fun ht => ?_, fun ht => ?_⟩]
  ·rcases List.mem_cons.1 ((h t).1 (List.mem_cons_of_mem _ ht)) with e | h1
   ·have h3 := hl2.1 t ht
    rw [e, E0] at h3
    cases h3
   ·exact h1
  ·rcases List.mem_cons.1 ((h t).2 (List.mem_cons_of_mem _ ht)) with e | h1
   ·have h3 := hm2.1 t ht
    rw [e, E0] at h3
    cases h3
   ·exact h1
def Gb (a b : List AA) (d : List AE) : Prop := YM d ∧ ∀ p k, (p, k) ∈ d ↔ Mo a b p = some k
theorem N0 {a b : List AA} {d e : List AE} (hd : Gb a b d) (he : Gb a b e) : d = e :=
 S9 hd.1 he.1 fun t => by
  obtain ⟨p, k⟩ := t
  rw [hd.2, he.2]
def Gj (a b : List AA) : Int := if Ex a ≠ 0 then Ex a else Ex b
def OT (P : Pg) : Prop := ∀ x : List AA × List AA, Fk x.1 → Fk x.2 → Fn P "mergelens/tree.Diff" Jj x fun (d : List AE × Int) _ => d.2 = Gj x.1 x.2 ∧ (d.2 ≠ 0 → d.1 = []) ∧ (d.2 = 0 → Gb x.1 x.2 d.1)
end Go.VS

/- The document's trees. -/
set_option linter.unusedVariables false
set_option linter.unusedSimpArgs false
namespace Go.VS
variable {P : Pg}
def findF : List AA → Bs → Bs × Bool
 | [], _ => ([], false)
 | f :: r, p => if f.1 = p then (f.2, true) else findF r p
theorem Q5 {l : List AA} {i : Nat} (hi : i < l.length) (p : Bs) : findF (l.drop i) p = if (l.getD i ([], [])).1 = p then ((l.getD i ([], [])).2, true) else findF (l.drop (i + 1)) p := by
 rw [List.drop_eq_getElem_cons hi, findF, getD_eq hi]
def Jm (P : Pg) : Prop := ∀ x : List AA × Bs, x.1.length ≤ 1000000 → Fn P zS9 CN x fun (d : Bs × Bool) _ => d = findF x.1 x.2
theorem Aat (h : Has P Hv) : Jm P := by
 rintro ⟨l, p⟩ hl
 dsimp only at hl
 refine Sk h ?_
 unfold NM
 dsimp only
 refine Ai.mid (fun _ => findF l p = ([], false)) ?_ fun _ h => h.symm
 refine Bl.of (fun q => (0 ≤ q.2.2 ∧ q.2.2 ≤ l.length) ∧ findF (l.drop q.2.2.toNat) p = findF l p) (fun q => (l.length - q.2.2).toNat) ⟨⟨Int.le_refl _, by dsimp only; omega⟩, rfl⟩ ?_
 rintro ⟨q1, q2, i⟩ ⟨⟨i0, i1⟩, hq⟩
 dsimp only at i0 i1 hq ⊢
 refine ⟨fun hi => ?_, fun hi => ?_⟩
 ·have hi := of_decide_eq_true hi
  have hi2 : i.toNat < l.length := by omega
  rw [Q5 hi2] at hq
  refine Ai.mid (fun _ => (l.getD i.toNat ([], [])).1 ≠ p) ⟨⟨i0, hi⟩, hi2, fun hb => ?_, fun hb => beq_eq_false_iff_ne.1 hb⟩ fun _ hn => ?_
  ·rw [if_pos (eq_of_beq hb)] at hq
   exact hq
  ·rw [if_neg hn] at hq
   rw [w64 (by omega) (by omega), show (i + 1).toNat = i.toNat + 1 by omega]
   exact ⟨⟨⟨by omega, by omega⟩, hq⟩, by omega⟩
 ·have hi := of_decide_eq_false hi
  rw [List.drop_of_length_le (by omega)] at hq
  exact hq.symm
def Jl (P : Pg) : Prop := ∀ x : List AA × Bs, x.1.length ≤ 1000000 → Fn P Vn Cn x fun (d : Bs × Bool) _ => d = findF x.1 x.2
theorem Aar (h : Has P Gq) : Jl P := by
 rintro ⟨l, p⟩ hl
 dsimp only at hl
 refine QA h ?_
 unfold LS
 dsimp only
 refine Ai.mid (fun _ => findF l p = ([], false)) ?_ fun _ h => h.symm
 refine Bl.of (fun q => (0 ≤ q.2.2 ∧ q.2.2 ≤ l.length) ∧ findF (l.drop q.2.2.toNat) p = findF l p) (fun q => (l.length - q.2.2).toNat) ⟨⟨Int.le_refl _, by dsimp only; omega⟩, rfl⟩ ?_
 rintro ⟨q1, q2, i⟩ ⟨⟨i0, i1⟩, hq⟩
 dsimp only at i0 i1 hq ⊢
 refine ⟨fun hi => ?_, fun hi => ?_⟩
 ·have hi := of_decide_eq_true hi
  have hi2 : i.toNat < l.length := by omega
  rw [Q5 hi2] at hq
  refine Ai.mid (fun _ => (l.getD i.toNat ([], [])).1 ≠ p) ⟨⟨i0, hi⟩, hi2, fun hb => ⟨⟨i0, hi⟩, hi2, ?_⟩, fun hb => beq_eq_false_iff_ne.1 hb⟩ fun _ hn => ?_
  ·rw [if_pos (eq_of_beq hb)] at hq
   exact hq
  ·rw [if_neg hn] at hq
   rw [w64 (by omega) (by omega), show (i + 1).toNat = i.toNat + 1 by omega]
   exact ⟨⟨⟨by omega, by omega⟩, hq⟩, by omega⟩
 ·have hi := of_decide_eq_false hi
  rw [List.drop_of_length_le (by omega)] at hq
  exact hq.symm
theorem Jm.at (h : Jm P) {l : List AA} {p : Bs} (hl : l.length ≤ 1000000) {K : Bs × Bool → Unit → Prop} (hk : K (findF l p) ()) : Fn P zS9 CN (l, p) K :=
 (h (l, p) hl).to fun (d : Bs × Bool) _ hd => by
  have hd : d = findF l p := hd
  subst hd
  exact hk
theorem Jl.at (h : Jl P) {l : List AA} {p : Bs} (hl : l.length ≤ 1000000) {K : Bs × Bool → Unit → Prop} (hk : K (findF l p) ()) : Fn P Vn Cn (l, p) K :=
 (h (l, p) hl).to fun (d : Bs × Bool) _ hd => by
  have hd : d = findF l p := hd
  subst hd
  exact hk
end Go.VS

/- The document's differences. -/
set_option linter.unusedVariables false
set_option linter.unusedSimpArgs false
namespace Go.VS
variable {P : Pg}
def OS (P : Pg) : Prop := ∀ x : List AA × List AA, Fk x.1 → Fk x.2 → Fn P "mergelens/tree.both" Ek x fun (d : Int) _ => d = Gj x.1 x.2
theorem Aas (h : Has P Hw) (hT : Et P) : OS P := by
 rintro ⟨a, b⟩ ha hb
 dsimp only at ha hb
 refine Sl h ?_
 unfold NN Gj
 dsimp only
 refine hT.at ha ⟨fun hc => ?_, fun hc => ?_⟩
 ·rw [if_pos (by simpa using hc)]
 ·rw [if_neg (by simpa using hc)]
  exact hT.at hb rfl
theorem JK.mono {l : List AA} (h : JK l) {i k : Nat} (hk : k < l.length) (hi : i < k) : Op.bytesLess (pth l i) (pth l k) = true := (h k hk i hi).1
end Go.VS

/- The document's list of differences. -/
set_option linter.unusedVariables false
set_option linter.unusedSimpArgs false
namespace Go.VS
variable {P : Pg}
theorem Q4 : ∀ {l : List AA}, l.Pairwise (fun x y => x.1 ≠ y.1) → ∀ p, findF l p = match AQ l p with | some v => (v, true) | none => ([], false)
 | [], _, p => rfl
 | f :: r, h, p => by
  have h2 := List.pairwise_cons.1 h
  have ih := Q4 h2.2 p
  rw [findF, AQ]
  by_cases e : f.1 = p
  ·rw [if_pos e]
   have hn : AQ r p = none := by
    cases hb : AQ r p with
    | none => rfl
    | some v =>
     obtain ⟨g, hg, hgp⟩ := (D8 r p).1 (by rw [hb]; rfl)
     exact absurd (e.trans hgp.symm) (h2.1 g hg)
   rw [hn, if_pos e.symm]
  ·rw [if_neg e, ih]
   cases hb : AQ r p with
   | some v => rfl
   | none => rw [if_neg (fun h => e h.symm)]
theorem JK.ne {l : List AA} (h : JK l) : l.Pairwise (fun x y => x.1 ≠ y.1) := by
 rw [List.pairwise_iff_getElem]
 intro i j hi hj hij e
 have h1 := (h j hj i hij).1
 have h2 : pth l i = pth l j := by
  unfold pth
  rw [getD_eq hi, getD_eq hj]
  exact e
 rw [h2, E0] at h1
 cases h1
end Go.VS

/- What tree.Diff gathers, and that it is the differences once sorted. -/
set_option linter.unusedVariables false
set_option linter.unusedSimpArgs false
namespace Go.VS
variable {P : Pg}
def GA (b : List AA) (f : AA) : Option AE := match AQ b f.1 with
 | none => some (f.1, 2)
 | some v => if v = f.2 then none else some (f.1, 3)
def Jr (a : List AA) (f : AA) : Option AE := match AQ a f.1 with
 | none => some (f.1, 1)
 | some _ => none
def K7 (a b : List AA) : List AE := a.filterMap (GA b) ++ b.filterMap (Jr a)
theorem P2 {b : List AA} {f : AA} {t : AE} (h : GA b f = some t) : t.1 = f.1 := by
 unfold GA at h
 split at h
 ·cases h; rfl
 ·split at h
  ·cases h
  ·cases h; rfl
theorem OX {a : List AA} {f : AA} {t : AE} (h : Jr a f = some t) : t.1 = f.1 ∧ AQ a f.1 = none := by
 unfold Jr at h
 split at h
 ·rename_i h1; cases h; exact ⟨rfl, h1⟩
 ·cases h
theorem JK.blob {l : List AA} (h : JK l) {f : AA} (hf : f ∈ l) : AQ l f.1 = some f.2 := by
 have h1 := h.ne
 clear h
 induction l with
 | nil => cases hf
 | cons g r ih =>
  have h2 := List.pairwise_cons.1 h1
  rw [AQ]
  rcases List.mem_cons.1 hf with rfl | hf
  ·cases hb : AQ r f.1 with
   | none => dsimp only; rw [if_pos rfl]
   | some v =>
    obtain ⟨g, hg, he⟩ := (D8 r f.1).1 (by rw [hb]; rfl)
    exact absurd he.symm (h2.1 g hg)
  ·rw [ih hf h2.2]
theorem JK.Uv {l : List AA} (h : JK l) {p v : Bs} : AQ l p = some v ↔ (p, v) ∈ l := by
 constructor
 ·intro hb
  obtain ⟨f, hf, rfl⟩ := (D8 l p).1 (by rw [hb]; rfl)
  have := h.blob hf
  rw [this] at hb
  cases hb
  exact hf
 ·intro hf
  exact h.blob hf
theorem Z1 {a b : List AA} (ha : JK a) (hb : JK b) (p : Bs) (k : Int) : (p, k) ∈ K7 a b ↔ Mo a b p = some k := by
 unfold K7 Mo
 rw [List.mem_append, List.mem_filterMap, List.mem_filterMap]
 constructor
 ·rintro (⟨f, hf, h⟩ | ⟨f, hf, h⟩)
  ·have h1 := P2 h
   have h1 : p = f.1 := h1
   subst h1
   rw [ha.blob hf]
   unfold GA at h
   split at h
   ·rename_i h2; rw [h2]; cases h; rfl
   ·rename_i v h2
    rw [h2]
    split at h
    ·cases h
    ·rename_i h3
     cases h
     dsimp only
     rw [if_neg (fun e => h3 e.symm)]
  ·obtain ⟨h1, h2⟩ := OX h
   have h1 : p = f.1 := h1
   subst h1
   rw [h2, hb.blob hf]
   unfold Jr at h
   rw [h2] at h
   cases h; rfl
 ·intro h
  cases h1 : AQ a p with
  | none =>
   cases h2 : AQ b p with
   | none => rw [h1, h2] at h; cases h
   | some v =>
    rw [h1, h2] at h
    cases h
    exact .inr ⟨(p, v), hb.Uv.1 h2, by unfold Jr; rw [h1]⟩
  | some u =>
   refine .inl ⟨(p, u), ha.Uv.1 h1, ?_⟩
   unfold GA
   cases h2 : AQ b p with
   | none => rw [h1, h2] at h; cases h; rfl
   | some v =>
    rw [h1, h2] at h
    dsimp only at h ⊢
    split at h
    ·cases h
    ·rename_i h3
     cases h
     rw [if_neg (fun e => h3 e.symm)]
theorem UO {l : List AA} (h : l.Pairwise fun x y => x.1 ≠ y.1) {g : AA → Option AE} (hg : ∀ f t, g f = some t → t.1 = f.1) : (l.filterMap g).Pairwise fun x y => x.1 ≠ y.1 :=
 h.filterMap g fun x y hxy t ht u hu => by rw [hg x t ht, hg y u hu]; exact hxy
theorem Abh {a b : List AA} (ha : JK a) (hb : JK b) : (K7 a b).Pairwise fun x y => x.1 ≠ y.1 := by
 unfold K7
 refine List.pairwise_append.2 ⟨UO ha.ne fun _ _ h => P2 h, UO hb.ne fun _ _ h => (OX h).1, fun x hx y hy e => ?_⟩
 obtain ⟨f, hf, h1⟩ := List.mem_filterMap.1 hx
 obtain ⟨g, hg, h2⟩ := List.mem_filterMap.1 hy
 obtain ⟨h3, h4⟩ := OX h2
 rw [← h3, ← e, P2 h1, ha.blob hf] at h4
 cases h4
theorem ZL (a b : List AA) : (K7 a b).length ≤ a.length + b.length := by
 unfold K7
 rw [List.length_append]
 exact Nat.add_le_add (List.length_filterMap_le ..) (List.length_filterMap_le ..)
theorem NZ {a b : List AA} (ha : JK a) (hb : JK b) {d : List AE} (hp : d.Perm (K7 a b)) (hs : d.Pairwise fun x y => Op.bytesLess y.1 x.1 = false) : Gb a b d := by
 refine ⟨?_, fun p k => by rw [hp.mem_iff, Z1 ha hb]⟩
 have hn : d.Pairwise fun x y => x.1 ≠ y.1 := hp.symm.pairwise (Abh ha hb) fun h e => h e.symm
 unfold YM
 refine (hs.and hn).imp ?_
 rintro x y ⟨h1, h2⟩
 rcases O4 h2 with h3 | h3
 ·exact h3
 ·rw [h3] at h1; cases h1
end Go.VS

/- What performing differences gives, and that it is one tree. -/
set_option linter.unusedVariables false
set_option linter.unusedSimpArgs false
namespace Go.VS
variable {P : Pg}
theorem FL {α : Type} [DecidableEq α] : ∀ {l m : List α}, l.Nodup → (∀ x ∈ l, x ∈ m) → l.length ≤ m.length
 | [], _, _, _ => Nat.zero_le _
 | a :: l, m, hn, hs => by
  have h2 := List.nodup_cons.1 hn
  have ha := hs a (List.mem_cons_self ..)
  have ih := FL (m := m.erase a) h2.2 fun x hx => (List.mem_erase_of_ne (show x ≠ a from fun e => h2.1 (by rw [← e]; exact hx))).2 (hs x (List.mem_cons_of_mem _ hx))
  rw [List.length_erase_of_mem ha] at ih
  have := List.length_pos_of_mem ha
  rw [List.length_cons]
  omega
end Go.VS
