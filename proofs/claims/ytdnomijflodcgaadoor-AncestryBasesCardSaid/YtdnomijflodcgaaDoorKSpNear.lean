/- Near: how long a changed text is, and how many lines it has. -/
import Derived.Test.YtdnomijflodcgaaDoorKSpFil
import Derived.Test.YtdnomijflodcgaaDoorKSpTxt
set_option linter.unusedVariables false
set_option linter.unusedSimpArgs false
namespace Go.VS
variable {P : Pg}
theorem Nw : ∀ (s acc : Bs), s ≠ [] → (lnN acc s).flatten = acc ++ s
 | [], _, h => absurd rfl h
 | b :: r, acc, _ => by
  rw [lnN]
  split
  ·by_cases hr : r = []
   ·subst hr; simp [lnN]
   ·rw [List.flatten_cons, Nw r [] hr]; simp
  ·rename_i h
   have hr : r ≠ [] := fun e => h (Or.inr e)
   rw [Nw r (acc ++ [b]) hr]; simp
theorem Yh (s : Bs) : (lnF s).flatten = s := by
 by_cases h : s = []
 ·subst h; rfl
 ·exact Nw s [] h
theorem Ur (k : Int) : (N2 k).count 10 = 0 := by
 have hr := DV (a := k) (n := 10) (by decide) (by decide)
 unfold N2
 generalize FB k 10 = m at *
 have : m = 0 ∨ m = 1 ∨ m = 2 ∨ m = 3 ∨ m = 4 ∨ m = 5 ∨ m = 6 ∨ m = 7 ∨ m = 8 ∨ m = 9 := by omega
 rcases this with rfl | rfl | rfl | rfl | rfl | rfl | rfl | rfl | rfl | rfl <;> decide
def OQ (P : Pg) : Prop := ∀ x : Bs × (List Int × Int), x.1.length ≤ 4000 → (0 ≤ x.2.2 ∧ x.2.2 ≤ 1000000) → Fn P Ab3 Ej x fun (d : Bs) _ => d.length ≤ x.1.length + 4 * (x.1.count 10 + 1) ∧ d.count 10 ≤ 2 * x.1.count 10 + 1
theorem Aap (h : Has P Ir) (hA : KV P) (hL : LM P) (hN : Ld P) : OQ P := by
 rintro ⟨s, raw, fr⟩ hs ⟨f0, f1⟩
 dsimp only at hs f0 f1
 refine T2 h ?_
 unfold OW
 dsimp only
 refine (hN s (by omega)).to ?_
 rintro (l : List Bs) _ hl
 have hl : l = lnF s := hl
 have hlen : l.length ≤ s.count 10 + 1 := by
  have := Xj s
  rw [hl]
  split at this <;> omega
 have hlen2 : l.length ≤ s.length := by rw [hl]; exact OH s []
 have hfl : l.flatten = s := by rw [hl]; exact Yh s
 clear hl
 have hpre : ∀ k, k < l.length → (l.take (k + 1)).flatten = (l.take k).flatten ++ l.getD k [] := fun k hk => by
  rw [List.take_add_one, List.getElem?_eq_getElem hk, List.flatten_append, List.getD_eq_getElem?_getD, List.getElem?_eq_getElem hk]
  simp
 have hle : ∀ k, (l.take k).flatten.length ≤ s.length ∧ (l.take k).flatten.count 10 ≤ s.count 10 := fun k => by
  have : l.flatten = (l.take k).flatten ++ (l.drop k).flatten := by rw [← List.flatten_append, List.take_append_drop]
  rw [hfl] at this
  have h1 := congrArg List.length this
  have h2 := congrArg (List.count (10 : UInt8)) this
  rw [List.length_append] at h1
  rw [List.count_append] at h2
  omega
 rw [w64 (n := fr + 40) (by omega) (by omega)]
 refine Ai.mid (fun d => d.length ≤ s.length + 4 * (s.count 10 + 1) ∧ d.count 10 ≤ 2 * s.count 10 + 1) ?_ fun _ h => h
 refine Bl.of (fun q => (0 ≤ q.2 ∧ q.2 ≤ l.length) ∧ (q.1.length : Int) ≤ 4 * q.2 + ((l.take q.2.toNat).flatten.length : Nat) ∧ (q.1.count 10 : Int) ≤ q.2 + ((l.take q.2.toNat).flatten.count 10 : Nat)) (fun q => (l.length - q.2).toNat) ⟨⟨Int.le_refl _, Int.natCast_nonneg _⟩, by simp, by simp⟩ ?_
 rintro ⟨d, i⟩ ⟨⟨i0, i1⟩, hd, hc⟩
 dsimp only at i0 i1 hd hc ⊢
 have hti := hle i.toNat
 refine ⟨fun hi => ?_, fun hi => by have hi := of_decide_eq_false hi; omega⟩
 have hi := of_decide_eq_true hi
 have hi2 : i.toNat < l.length := by omega
 have hp := congrArg List.length (hpre i.toNat hi2)
 have hp2 := congrArg (List.count (10 : UInt8)) (hpre i.toNat hi2)
 rw [List.length_append] at hp
 rw [List.count_append] at hp2
 have htj := hle (i.toNat + 1)
 refine Ai.mid (fun d => (d.length : Int) ≤ 4 * (i + 1) + ((l.take (i.toNat + 1)).flatten.length : Nat) ∧ (d.count 10 : Int) ≤ i + 1 + ((l.take (i.toNat + 1)).flatten.count 10 : Nat)) ?_ fun d hd => ?_
 ·rw [w64 (n := fr + i) (by omega) (by omega), w64 (n := fr + 40 + i) (by omega) (by omega)]
  refine hA.at (by omega) ⟨by decide, ?_⟩
  refine Ai.mid (fun e => (e.length : Int) ≤ 4 * i + ((l.take i.toNat).flatten.length : Nat) + 4 ∧ (e.count 10 : Int) ≤ i + ((l.take i.toNat).flatten.count 10 : Nat) + 1) ⟨fun _ => by omega, fun _ => ?_⟩ fun e he => ?_
  ·refine Ai.mid (fun e => (e.length : Int) ≤ 4 * i + ((l.take i.toNat).flatten.length : Nat) + 4 ∧ (e.count 10 : Int) ≤ i + ((l.take i.toNat).flatten.count 10 : Nat) + 1) ⟨fun _ => ?_, fun _ => by omega⟩ fun _ h => h
   refine hA.at (by omega) ((hL _).to ?_)
   rintro (ln : Bs) _ hln
   have hln : ln = N2 _ := hln
   have hl1 := Nv (atF raw (fr + 40 + i))
   have hl2 := Ur (atF raw (fr + 40 + i))
   rw [← hln] at hl1 hl2
   refine ⟨by omega, by rw [List.length_append]; simp only [List.length_cons, List.length_nil]; omega, ?_⟩
   try dsimp only
   rw [List.length_append, List.length_append, List.count_append, List.count_append, hl2]
   simp only [List.length_cons, List.length_nil, List.count_singleton_self]
   omega
  ·refine ⟨⟨i0, hi⟩, hi2, by omega, ?_⟩
   try dsimp only
   rw [List.length_append, List.count_append]
   omega
 ·rw [w64 (by omega) (by omega), show (i + 1).toNat = i.toNat + 1 by omega]
  exact ⟨⟨⟨by omega, by omega⟩, hd.1, hd.2⟩, by omega⟩
end Go.VS
