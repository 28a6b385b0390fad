/- Statistics as a text, in the document. -/
import Derived.Test.YtcaandgkdmidkaaDoorKSpSf
import Derived.Test.YtcaandgkdmidkaaDoorKSpAll
set_option linter.unusedVariables false
set_option linter.unusedSimpArgs false
namespace Go.VS
variable {P : Pg}
def Vz (P : Pg) : Prop := ∀ x : List Stat, x.length ≤ 1000000 → Fn P VV UO x fun (d : Int × (Int × Bool)) _ => d = ((Fw x).1, ((Fw x).2.1, (Fw x).2.2.2))
theorem VY (h : Has P UZ) : Vz P := by
 intro x hx
 refine Vs h ?_
 unfold Vh
 refine BI.mid (fun q => (q.2.2.2.1, (q.2.2.2.2, true)) = ((Fw x).1, ((Fw x).2.1, (Fw x).2.2.2))) ?_ fun q hq => hq
 refine Mb.of (fun q => 0 ≤ q.2.2.2.1 ∧ 0 ≤ q.2.2.2.2.1 ∧ q.2.2.2.1 + q.2.2.2.2.1 ≤ 2147483647 ∧ 0 ≤ q.2.2.2.2.2 ∧ q.2.2.2.2.2 ≤ x.length ∧ ∃ m, Fw x = Fx (x.drop q.2.2.2.2.2.toNat) q.2.2.2.1 q.2.2.2.2.1 m) (fun q => (x.length - q.2.2.2.2.2).toNat) ⟨by decide, by decide, by decide, by decide, by dsimp only; omega, 0, rfl⟩ ?_
 rintro ⟨u1, u2, u3, a, r, i⟩ ⟨a0, r0, ar, i0, i1, m, e⟩
 dsimp only at a0 r0 ar i0 i1 e ⊢
 refine ⟨fun hc => ?_, fun hc => ?_⟩
 ·have hc := of_decide_eq_true hc
  have hi : i.toNat < x.length := by omega
  have hd : x.drop i.toNat = x.getD i.toNat FH :: x.drop (i.toNat + 1) := by
   rw [List.drop_eq_getElem_cons hi, List.getD_eq_getElem?_getD, List.getElem?_eq_getElem hi, Option.getD_some]
  rw [hd] at e
  generalize x.getD i.toNat FH = s at e ⊢
  obtain ⟨p, sa, sr⟩ := s
  dsimp only
  refine BI.mid (fun q => 0 ≤ q.2.2.2.1 ∧ 0 ≤ q.2.2.2.2 ∧ q.2.2.2.1 + q.2.2.2.2 ≤ 2147483647 ∧ ∃ m, Fw x = Fx (x.drop (i.toNat + 1)) q.2.2.2.1 q.2.2.2.2 m) (BI.mid (fun q => q = (sa, sr)) ?_ ?_) ?_
  ·simp only [and_true, and_self]
   exact ⟨⟨i0, hc⟩, hi, ⟨i0, hc⟩, hi⟩
  ·rintro q rfl
   dsimp only
   rw [w64 (n := 2147483647 - a) (by omega) (by omega), w64 (n := 2147483647 - a - r) (by omega) (by omega)]
   by_cases hok : Qo (p, (sa, sr)) a r
   ·obtain ⟨⟨c1, c2⟩, ⟨c3, c4⟩, ⟨c5, c6⟩⟩ := id hok
    dsimp only at c1 c2 c3 c4 c5 c6
    rw [Fx, if_pos hok] at e
    rw [w64 (n := 2147483647 - a - r - sa) (by omega) (by omega), w64 (n := a + sa) (by omega) (by omega), w64 (n := r + sr) (by omega) (by omega)]
    refine ⟨fun hh => ?_, fun _ => ⟨by omega, by omega, by omega, _, e⟩⟩
    exfalso
    simp at hh
    omega
   ·rw [Fx, if_neg hok] at e
    rw [e]
    refine ⟨fun _ => rfl, fun hh => ?_⟩
    exfalso
    apply hok
    simp at hh
    obtain ⟨⟨⟨h1, h2⟩, h3⟩, h4⟩ := hh
    rw [w64 (n := 2147483647 - a - r - sa) (by omega) (by omega)] at h4
    exact ⟨⟨by dsimp only; omega, by dsimp only; omega⟩, ⟨by dsimp only; omega, by dsimp only; omega⟩, ⟨by dsimp only; omega, by dsimp only; omega⟩⟩
  ·rintro ⟨v1, v2, v3, a', r'⟩ ⟨k1, k2, k3, m', k4⟩
   dsimp only at k1 k2 k3 k4 ⊢
   rw [w64 (by omega) (by omega)]
   refine ⟨⟨k1, k2, k3, by omega, by omega, m', ?_⟩, by omega⟩
   rw [show (i + 1).toNat = i.toNat + 1 by omega]
   exact k4
 ·have hc := of_decide_eq_false hc
  rw [show i.toNat = x.length by omega, List.drop_length] at e
  rw [e]
  rfl
def U9 (P : Pg) : Prop := ∀ x : Int × Bs, ∀ c : UInt8, x.2 = [c] → 0 ≤ x.1 → x.1 ≤ 100000 → Fn P zS0 UI x fun (d : Bs) _ => d = List.replicate x.1.toNat c
theorem VQ (h : Has P UX) : U9 P := by
 rintro ⟨n, s⟩ c hs h0 h1
 dsimp only at hs h0 h1
 subst hs
 refine Vo h ?_
 unfold Vg
 refine BI.mid (fun q => q = List.replicate n.toNat c) ?_ fun q hq => hq
 refine Mb.of (fun q => 0 ≤ q.2 ∧ q.2 ≤ n ∧ q.1 = List.replicate q.2.toNat c) (fun q => (n - q.2).toNat) ⟨by decide, h0, rfl⟩ ?_
 rintro ⟨l, i⟩ ⟨i0, i1, e⟩
 dsimp only at i0 i1 e ⊢
 subst e
 refine ⟨fun hc => ?_, fun hc => ?_⟩
 ·have hc := of_decide_eq_true hc
  refine BI.mid (fun q => q = List.replicate (i.toNat + 1) c) ⟨by simp only [List.length_replicate, List.length_cons, List.length_nil]; omega, by rw [List.replicate_succ']⟩ ?_
  rintro q rfl
  rw [w64 (by omega) (by omega)]
  exact ⟨⟨by omega, by omega, by rw [show (i + 1).toNat = i.toNat + 1 by omega]⟩, by omega⟩
 ·have hc := of_decide_eq_false hc
  rw [show i = n by omega]
def mxN : List Stat → Int → Int
 | [], m => m
 | s :: l, m => mxN l (if s.2.1 + s.2.2 > m then s.2.1 + s.2.2 else m)
theorem VR : ∀ (l : List Stat) (a r m : Int), (Fx l a r m).2.2.2 = true → (Fx l a r m).2.2.1 = mxN l m
 | [], _, _, _, _ => rfl
 | s :: l, a, r, m, h => by
  rw [Fx] at h ⊢
  by_cases hc : Qo s a r
  ·rw [if_pos hc] at h ⊢
   exact VR l _ _ _ h
  ·rw [if_neg hc] at h
   cases h
theorem U7.at (h : U7 P) {s : Bs} (hs : s.length ≤ 60) {K : Bs → Unit → Prop} (hk : K (CY s) ()) : Fn P zS2 UK s K :=
 (h s (by omega)).to fun (d : Bs) _ hd => by
  have hd : d = CY s := hd
  subst hd
  exact hk
theorem U0.at (h : U0 P) {n : Int} {K : Bs → Unit → Prop} (hk : K (Ed n) ()) : Fn P zS1 UJ n K :=
 (h n).to fun (d : Bs) _ hd => by
  have hd : d = Ed n := hd
  subst hd
  exact hk
theorem U9.at (h : U9 P) {n : Int} {c : UInt8} (h0 : 0 ≤ n) (h1 : n ≤ 100000) {K : Bs → Unit → Prop} (hk : K (List.replicate n.toNat c) ()) : Fn P zS0 UI (n, [c]) K :=
 (h (n, [c]) c rfl h0 h1).to fun (d : Bs) _ hd => by
  have hd : d = List.replicate n.toNat c := hd
  subst hd
  exact hk
theorem V7 {l : List Stat} {i : Nat} (h : i < l.length) {f : Stat → Bs} : (l.take i).map f ++ [f (l.getD i FH)] = (l.take (i + 1)).map f := by
 rw [List.take_add_one, List.getElem?_eq_getElem h, List.map_append, List.getD_eq_getElem?_getD, List.getElem?_eq_getElem h]
 rfl
theorem VO (h : Hd P) {a r m w : Int} (hok : Iu a r m w) {K : Int × (Int × Int) → Unit → Prop} (hk : K ((Cz a r m w).1, ((Cz a r m w).2, 0)) ()) : Fn P UC Bm (a, (r, (m, w))) K :=
 (h (a, (r, (m, w)))).to fun (d : Int × (Int × Int)) _ hd => by
  have hd : d = Lx a r m w := hd
  unfold Lx at hd
  rw [if_pos hok] at hd
  subst hd
  exact hk
def UT (P : Pg) : Prop := ∀ x : List Stat × Int, Few x.1 → Fn P zS8 UM x fun (d : Bs × Int) _ => d = sfF x.1 x.2
theorem VB (h : Has P US) (hSum : Vz P) (hB : Hd P) (hQ : U7 P) (hF : U0 P) (hSg : U9 P) (hA : Vl P) : UT P := by
 rintro ⟨l, w⟩ hl
 dsimp only at hl
 have hl8 := hl.1
 refine Vk h ?_
 unfold Vb
 dsimp only
 refine (hSum l (by omega)).to ?_
 rintro (d : Int × (Int × Bool)) _ hd
 have hd : d = _ := hd
 subst hd
 dsimp only
 unfold sfF
 refine ⟨fun hc => ?_, fun hc => ?_⟩
 ·rw [if_pos (by simp at hc; rcases hc with (hc | hc) | hc; exact Or.inr (Or.inl hc); exact Or.inr (Or.inr hc); exact Or.inl hc)]
 simp at hc
 obtain ⟨⟨hw1, hw2⟩, hok⟩ := hc
 rw [if_neg (by rw [hok]; simp; omega)]
 have htok := OS (l := l) (a := 0) (r := 0) (m := 0) hok (by decide) (by decide) (by decide) (by decide) (by decide)
 have hmx := VR l 0 0 0 hok
 rw [show Fx l 0 0 0 = Fw l from rfl] at htok hmx
 generalize Fw l = T at *
 obtain ⟨A, R, M, ok⟩ := T
 dsimp only at htok hmx ⊢
 obtain ⟨tA, tR, tAR, tM0, tM1, tS⟩ := htok
 refine BI.mid (fun q => q = M) ?_ ?_
 ·refine Mb.of (fun q => 0 ≤ q.2 ∧ q.2 ≤ l.length ∧ mxN (l.drop q.2.toNat) q.1 = M) (fun q => (l.length - q.2).toNat) ⟨by decide, by dsimp only; omega, hmx.symm⟩ ?_
  rintro ⟨m, i⟩ ⟨i0, i1, e⟩
  dsimp only at i0 i1 e ⊢
  refine ⟨fun hc => ?_, fun hc => ?_⟩
  ·have hc := of_decide_eq_true hc
   have hi : i.toNat < l.length := by omega
   have hd : l.drop i.toNat = l.getD i.toNat FH :: l.drop (i.toNat + 1) := by
    rw [List.drop_eq_getElem_cons hi, List.getD_eq_getElem?_getD, List.getElem?_eq_getElem hi, Option.getD_some]
   have hm := tS _ (Ux (d := FH) hi)
   rw [hd, mxN] at e
   generalize l.getD i.toNat FH = s at e hm ⊢
   rw [w64 (n := s.2.1 + s.2.2) (by omega) (by omega)]
   refine BI.mid (fun q => mxN (l.drop (i.toNat + 1)) q = M) (BI.of ?_) ?_
   ·exact ⟨⟨i0, hc⟩, hi, ⟨i0, hc⟩, hi, e, trivial⟩
   ·intro q hq
    rw [w64 (by omega) (by omega)]
    exact ⟨⟨by omega, by omega, by rw [show (i + 1).toNat = i.toNat + 1 by omega]; exact hq⟩, by omega⟩
  ·have hc := of_decide_eq_false hc
   rw [show i.toNat = l.length by omega, List.drop_length] at e
   exact e
 intro q hq
 obtain rfl : M = q := hq.symm
 clear hq
 refine BI.mid (fun q => q = l.map (Cj M w)) ?_ ?_
 ·refine Mb.of (fun q => 0 ≤ q.2 ∧ q.2 ≤ l.length ∧ q.1 = (l.take q.2.toNat).map (Cj M w)) (fun q => (l.length - q.2).toNat) ⟨by decide, by dsimp only; omega, rfl⟩ ?_
  rintro ⟨L, i⟩ ⟨i0, i1, e⟩
  dsimp only at i0 i1 e ⊢
  refine ⟨fun hc => ?_, fun hc => ?_⟩
  ·have hc := of_decide_eq_true hc
   have hi : i.toNat < l.length := by omega
   have hm := tS _ (Ux (d := FH) hi)
   have hp := hl.2 _ (Ux (d := FH) hi)
   have hL : L.length ≤ 8 := by rw [e, List.length_map, List.length_take]; omega
   have hnx : L ++ [Cj M w (l.getD i.toNat FH)] = (l.take (i.toNat + 1)).map (Cj M w) := by rw [e]; exact V7 hi
   clear e
   refine BI.mid (fun q => q = (l.take (i.toNat + 1)).map (Cj M w)) ?_ ?_
   ·rw [← hnx]
    clear hnx
    generalize l.getD i.toNat FH = s at hm hp ⊢
    have hb := Mj hm.1 hm.2.1 hm.2.2 hw1 hw2
    have hq := Lo s.1
    have hf := Hn (s.2.1 + s.2.2)
    refine BI.mid (fun q => q = Cz s.2.1 s.2.2 M w) ?_ ?_
    ·simp only [and_true, and_self]
     refine ⟨⟨i0, hc⟩, hi, ⟨i0, hc⟩, hi, VO hB ⟨hw1, hw2, hm.1, hm.2.1, tM1, hm.2.2⟩ rfl⟩
    rintro q rfl
    rw [w64 (n := s.2.1 + s.2.2) (by omega) (by omega)]
    refine BI.of ⟨⟨i0, hc⟩, ⟨i0, hc⟩, ⟨i0, hc⟩, ?_⟩
    have hleaf : ∀ X : List Bs, X = L ++ [Cj M w s] → X = L ++ [Cj M w s] := fun _ h => h
    unfold Cj
    generalize Cz s.2.1 s.2.2 M w = br at *
    have l1 : (List.replicate br.1.toNat (43 : UInt8)).length ≤ 1000 := by rw [List.length_replicate]; omega
    have l2 : (List.replicate br.2.toNat (45 : UInt8)).length ≤ 1000 := by rw [List.length_replicate]; omega
    have hQ' : ∀ {K : Bs → Unit → Prop}, K (CY s.1) () → Fn P zS2 UK s.1 K := fun hk => hQ.at hp hk
    have hF' : ∀ {K : Bs → Unit → Prop}, K (Ed (s.2.1 + s.2.2)) () → Fn P zS1 UJ (s.2.1 + s.2.2) K := fun hk => hF.at hk
    have hP' : ∀ {K : Bs → Unit → Prop}, K (List.replicate br.1.toNat 43) () → Fn P zS0 UI (br.1, [43]) K := fun hk => hSg.at hb.1 (by omega) hk
    have hM' : ∀ {K : Bs → Unit → Prop}, K (List.replicate br.2.toNat 45) () → Fn P zS0 UI (br.2, [45]) K := fun hk => hSg.at hb.2.2.1 (by omega) hk
    generalize CY s.1 = Q at *
    generalize Ed (s.2.1 + s.2.2) = F at *
    generalize List.replicate br.1.toNat (43 : UInt8) = R1 at *
    generalize List.replicate br.2.toNat (45 : UInt8) = R2 at *
    repeat' (first | exact trivial | exact hi | exact rfl | apply And.intro | refine hQ' ?_ | refine hF' ?_ | refine hP' ?_ | refine hM' ?_ | (simp only [List.length_append, List.length_cons, List.length_nil]; omega))
   ·rintro q rfl
    rw [w64 (by omega) (by omega)]
    exact ⟨⟨by omega, by omega, by rw [show (i + 1).toNat = i.toNat + 1 by omega]⟩, by omega⟩
  ·have hc := of_decide_eq_false hc
   rw [show i.toNat = l.length by omega, List.take_length] at e
   exact e
 rintro q rfl
 have f1 := Hn (l.length : Int)
 have f2 := Hn A
 have f3 := Hn R
 have hen : LG l.length A R = (((((([32] : Bs) ++ Ed l.length) ++ [32, 102, 105, 108, 101, 115, 44, 32]) ++ Ed A) ++ [32, 97, 100, 100, 101, 100, 44, 32]) ++ Ed R) ++ [32, 114, 101, 109, 111, 118, 101, 100, 10] := rfl
 have hel := Ug l.length A R
 refine hF.at ⟨?_, ?_, hF.at ⟨?_, ?_, hF.at ⟨?_, ?_, ?_, ?_⟩⟩⟩
 all_goals try (simp only [List.length_append, List.length_cons, List.length_nil, List.length_map]; omega)
 rw [← hen]
 have hfl : (l.map (Cj M w) ++ [LG l.length A R]).flatten = l.flatMap (Cj M w) ++ LG l.length A R := by
  rw [List.flatten_append, List.flatMap_def]
  simp
 have hsz : (l.flatMap (Cj M w)).length ≤ 3000 * l.length := by
  have hf : ∀ (m : List Stat), (∀ s ∈ m, s ∈ l) → (m.flatMap (Cj M w)).length ≤ 3000 * m.length := by
   intro m
   induction m with
   | nil => intro _; simp
   | cons s m ih =>
    intro hm
    have h3 := ih fun t ht => hm t (List.mem_cons_of_mem _ ht)
    have hs := tS s (hm s (List.mem_cons_self ..))
    have h4 := Pj (most := M) (width := w) (s := s) hs.1 hs.2.1 hs.2.2 hw1 hw2 (hl.2 s (hm s (List.mem_cons_self ..)))
    rw [List.flatMap_cons, List.length_append, List.length_cons]
    omega
  exact hf l fun s hs => hs
 have htl : (l.flatMap (Cj M w) ++ LG l.length A R).length ≤ 30000 := by rw [List.length_append]; omega
 refine (hA _ (by rw [hfl]; omega) (by simp; omega)).to ?_
 rintro (d : Bs) _ hd
 have hd : d = _ := hd
 rw [hfl] at hd
 subst hd
 refine ⟨fun hh => ?_, fun _ => rfl⟩
 have hh := of_decide_eq_true hh
 omega
end Go.VS
