/- The program's search. -/
import Derived.Test.YtobddjdmgebmgaaKSpMach
set_option linter.unusedVariables false
set_option linter.unusedSimpArgs false
set_option linter.unusedSectionVars false
namespace Go.VS
variable {P : Program}

/-- The threads: each state with the least offset from which it is reached. -/
structure TI (a : Auto) (s : List UInt8) (lo hi at_ : Nat) (T : List (Int × Int)) : Prop where
  mem : ∀ q f : Int, (q, f) ∈ T ↔ 0 ≤ q ∧ (lo : Int) ≤ f ∧ f < (hi : Int) ∧ On a s f.toNat at_ q.toNat ∧ ∀ f' : Nat, lo ≤ f' → (f' : Int) < f → ¬ On a s f' at_ q.toNat
  sorted : T.Pairwise (fun t u => t.2 ≤ u.2)
  len : T.length ≤ a.1.length
structure SI (a : Auto) (s : List UInt8) (lo hi at_ : Nat) (T : List (Int × Int)) (seen : List Bool) : Prop where
  len : seen.length = a.1.length
  cnt : T.length = seen.count true
  is : ∀ q, seen.getD q false = true ↔ ∃ f : Nat, lo ≤ f ∧ f < hi ∧ On a s f at_ q

theorem machEq {m : search_machine} {a : Auto} {s : List UInt8} {t : Int} (h1 : m.1 = a) (h2 : m.2.1 = s) (h3 : m.2.2.1 = t) : m = (a, (s, (t, (m.2.2.2.1, m.2.2.2.2)))) := by
  obtain ⟨m1, m2, m3, m4, m5⟩ := m
  dsimp only at h1 h2 h3
  subst h1 h2 h3
  rfl

section
variable {a : Auto} {s : List UInt8} {lo hi at_ : Nat} {T T' : List (Int × Int)} {seen seen' : List Bool}

theorem leastN {Q : Nat → Prop} {lo f : Nat} (hf : lo ≤ f) (h : Q f) : ∃ g, lo ≤ g ∧ g ≤ f ∧ Q g ∧ ∀ k, lo ≤ k → k < g → ¬ Q k := by
  induction f using Nat.strongRecOn with
  | ind f ih =>
    by_cases e : ∃ k, lo ≤ k ∧ k < f ∧ Q k
    · obtain ⟨k, h1, h2, h3⟩ := e
      obtain ⟨g, g1, g2, g3, g4⟩ := ih k h2 h1 h3
      exact ⟨g, g1, by omega, g3, g4⟩
    · exact ⟨f, hf, Nat.le_refl _, h, fun k h1 h2 h3 => e ⟨k, h1, h2, h3⟩⟩

theorem on_succ {f j q : Nat} (hf : f ≤ j) : On a s f (j + 1) q ↔ ∃ p q0, On a s f j p ∧ j < s.length ∧ rdR a.1 (s.getD j 0) p q0 ∧ Rch a.1 (j + 1 == 0) (j + 1 == s.length) q0 q := by
  rw [on_iff]
  constructor
  · rintro ⟨q0, (⟨h1, _⟩ | ⟨j', p, h1, h2, h3, h4⟩), h5⟩
    · omega
    · have : j' = j := by omega
      subst this
      exact ⟨p, q0, h2, h3, h4, h5⟩
  · rintro ⟨p, q0, h2, h3, h4, h5⟩
    exact ⟨q0, .inr ⟨j, p, rfl, h2, h3, h4⟩, h5⟩
theorem on_self {f q : Nat} : On a s f f q ↔ Rch a.1 (f == 0) (f == s.length) a.2.toNat q := by
  rw [on_iff]
  constructor
  · rintro ⟨q0, (⟨_, rfl⟩ | ⟨j', p, h1, h2, _, _⟩), h5⟩
    · exact h5
    · have := h2.le; omega
  · intro h
    exact ⟨_, .inl ⟨rfl, rfl⟩, h⟩
theorem on_back {f j k q : Nat} (h : On a s f k q) (h1 : f ≤ j) (h2 : j ≤ k) : ∃ q', On a s f j q' := by
  induction h with
  | start => have : j = f := by omega
             subst this; exact ⟨_, .start⟩
  | eps _ _ ih => exact ih h2
  | read h hj r ih =>
    rename_i j0 p q
    by_cases e : j = j0 + 1
    · subst e; exact ⟨_, .read h hj r⟩
    · exact ih (by omega)

theorem TI.range (h : TI a s lo hi at_ T) (v : Valid a) : ∀ t ∈ T, 0 ≤ t.1 ∧ t.1 < (a.1.length : Int) := by
  rintro ⟨q, f⟩ ht
  obtain ⟨h1, _, _, h2, _⟩ := (h.mem q f).1 ht
  have := h2.lt v
  exact ⟨h1, by dsimp only at h1 ⊢; omega⟩
theorem SI.closed (h : SI a s lo hi at_ T seen) : Closed a.1 (at_ == 0) (at_ == s.length) seen := by
  intro q hq q' he
  obtain ⟨f, h1, h2, h3⟩ := (h.is q).1 hq
  exact (h.is q').2 ⟨f, h1, h2, h3.eps he⟩

theorem boolI {n : Nat} {m : Int} (h : m = n) (k : Nat) : (m == (k : Int)) = (n == k) := by
  subst h; rw [Bool.eq_iff_iff]; simp; omega

theorem read_TI (h : TI a s lo hi at_ T) (hh : hi ≤ at_ + 1) (hlen : at_ < s.length) {atI : Int} (hat : atI = at_) (R : RInv a.1 (s.getD atI.toNat 0) (atI + 1 == 0) (atI + 1 == ((List.length s : Nat) : Int)) T T' seen') :
    TI a s lo hi (at_ + 1) T' ∧ SI a s lo hi (at_ + 1) T' seen' := by
  subst hat
  have b1 : ((at_ : Int) + 1 == 0) = (at_ + 1 == 0) := boolI (n := at_ + 1) (by omega) 0
  have b2 : ((at_ : Int) + 1 == ((List.length s : Nat) : Int)) = (at_ + 1 == s.length) := boolI (n := at_ + 1) (by omega) _
  rw [b1, b2, show ((at_ : Int)).toNat = at_ by omega] at R
  have A : ∀ f : Nat, lo ≤ f → f < hi → ∀ q, On a s f (at_ + 1) q → ∃ g : Nat, lo ≤ g ∧ g ≤ f ∧ RkL a.1 (s.getD at_ 0) (at_ + 1 == 0) (at_ + 1 == s.length) T (g : Int) q := by
    intro f h1 h2 q hq
    obtain ⟨p, q0, k1, _, k2, k3⟩ := (on_succ (by omega)).1 hq
    obtain ⟨g, g1, g2, g3, g4⟩ := leastN (Q := fun f => On a s f at_ p) h1 k1
    refine ⟨g, g1, g2, ((p : Int), (g : Int)), ?_, rfl, q0, by simpa using k2, k3⟩
    refine (h.mem _ _).2 ⟨by omega, by omega, by omega, by simpa using g3, fun f' w1 w2 => ?_⟩
    have := g4 f' w1 (by omega)
    simpa using this
  have B : ∀ (f : Int) q, RkL a.1 (s.getD at_ 0) (at_ + 1 == 0) (at_ + 1 == s.length) T f q → (lo : Int) ≤ f ∧ f < (hi : Int) ∧ On a s f.toNat (at_ + 1) q := by
    rintro f q ⟨⟨p, f'⟩, ht, rfl, q0, k2, k3⟩
    obtain ⟨h1, h2, h3, h4, _⟩ := (h.mem _ _).1 ht
    dsimp only at h2 h3 h4 k2 ⊢
    exact ⟨h2, h3, (on_succ (by omega)).2 ⟨_, q0, h4, hlen, k2, k3⟩⟩
  have hcs : seen'.count true ≤ seen'.length := List.count_le_length
  refine ⟨⟨fun q f => ?_, R.sorted, by rw [R.cnt]; have := R.len; omega⟩, ⟨R.len, R.cnt, fun q => ?_⟩⟩
  · rw [R.mem]
    constructor
    · rintro ⟨h1, h2, h3⟩
      obtain ⟨b1, b2, b3⟩ := B _ _ h2
      refine ⟨h1, b1, b2, b3, fun f' w1 w2 w3 => ?_⟩
      obtain ⟨g, g1, g2, g3⟩ := A f' w1 (by omega) _ w3
      exact h3 g (by omega) g3
    · rintro ⟨h1, h2, h3, h4, h5⟩
      obtain ⟨g, g1, g2, g3⟩ := A f.toNat (by omega) (by omega) _ h4
      obtain ⟨_, _, b3⟩ := B _ _ g3
      have : (g : Int) = f := by
        apply Classical.byContradiction
        intro hne
        exact h5 g g1 (by omega) (by simpa using b3)
      rw [this] at g3
      refine ⟨h1, g3, fun f' w1 w2 => ?_⟩
      obtain ⟨c1, c2, c3⟩ := B _ _ w2
      exact h5 f'.toNat (by omega) (by omega) c3
  · rw [R.seen]
    constructor
    · rintro ⟨f, hf⟩
      obtain ⟨b1, b2, b3⟩ := B _ _ hf
      exact ⟨f.toNat, by omega, by omega, b3⟩
    · rintro ⟨f, h1, h2, h3⟩
      obtain ⟨g, _, _, g3⟩ := A f h1 h2 _ h3
      exact ⟨g, g3⟩

theorem add_TI {x : search_machine × (Int × Int)} {m : search_machine} {N : List Int} (A : Added x m N) (hx : x = ((a, (s, ((at_ : Int), (T, seen)))), (a.2, (at_ : Int)))) (hl : lo ≤ at_) (h : TI a s lo at_ at_ T) (k : SI a s lo at_ at_ T seen) :
    TI a s lo (at_ + 1) at_ m.2.2.2.1 ∧ SI a s lo (at_ + 1) at_ m.2.2.2.1 m.2.2.2.2 := by
  subst hx
  have b1 : stOf (a, (s, ((at_ : Int), (T, seen)))) = (at_ == 0) := boolI rfl 0
  have b2 : enOf (a, (s, ((at_ : Int), (T, seen)))) = (at_ == s.length) := boolI rfl _
  have am := A.mem
  have asn := A.seen
  dsimp only at am asn
  rw [b1, b2] at am asn
  have hlen := A.len
  have hcnt := A.cnt
  dsimp only at hlen
  have hcs : m.2.2.2.2.count true ≤ m.2.2.2.2.length := List.count_le_length
  refine ⟨⟨fun q f => ?_, ?_, by rw [hcnt]; have := k.len; omega⟩, ⟨by rw [hlen]; exact k.len, hcnt, fun q => ?_⟩⟩
  · rw [A.th, List.mem_append, h.mem, List.mem_map]
    constructor
    · rintro (⟨h1, h2, h3, h4, h5⟩ | ⟨q', hq', he⟩)
      · exact ⟨h1, h2, by omega, h4, h5⟩
      · cases he
        obtain ⟨h1, h2, h3⟩ := (am q).1 hq'
        dsimp only
        refine ⟨h1, by omega, by omega, ?_, fun f' w1 w2 w3 => ?_⟩
        · rw [show ((at_ : Int)).toNat = at_ by omega]
          exact on_self.2 h3
        · rw [(k.is q.toNat).2 ⟨f', w1, by omega, w3⟩] at h2
          cases h2
    · rintro ⟨h1, h2, h3, h4, h5⟩
      by_cases e : f < (at_ : Int)
      · exact .inl ⟨h1, h2, e, h4, h5⟩
      · have : f = (at_ : Int) := by omega
        subst this
        refine .inr ⟨q, (am q).2 ⟨h1, ?_, ?_⟩, rfl⟩
        · cases hh : seen.getD q.toNat false with
          | false => rfl
          | true =>
            obtain ⟨f, w1, w2, w3⟩ := (k.is _).1 hh
            exact (h5 f w1 (by omega) w3).elim
        · rw [show ((at_ : Int)).toNat = at_ by omega] at h4
          exact on_self.1 h4
  · rw [A.th]
    refine List.pairwise_append.2 ⟨h.sorted, ?_, ?_⟩
    · rw [List.pairwise_map]
      exact List.pairwise_iff_getElem.2 fun _ _ _ _ _ => Int.le_refl _
    · rintro ⟨q1, f1⟩ h1 t2 h2
      obtain ⟨q2, _, rfl⟩ := List.mem_map.1 h2
      have := ((h.mem _ _).1 h1).2.2.1
      dsimp only
      omega
  · rw [asn, k.is]
    constructor
    · rintro (⟨f, h1, h2, h3⟩ | h)
      · exact ⟨f, h1, by omega, h3⟩
      · exact ⟨at_, hl, by omega, on_self.2 h⟩
    · rintro ⟨f, h1, h2, h3⟩
      by_cases e : f < at_
      · exact .inl ⟨f, h1, e, h3⟩
      · have : f = at_ := by omega
        subst this
        exact .inr (on_self.1 h3)

theorem start_TI : TI a s lo lo at_ [] ∧ SI a s lo lo at_ [] (List.replicate a.1.length false) := by
  refine ⟨⟨fun q f => ⟨fun h => (nomatch h), fun ⟨_, h1, h2, _⟩ => by omega⟩, List.Pairwise.nil, Nat.zero_le _⟩, ⟨by simp, by simp [List.count_replicate], fun q => ⟨fun h => ?_, fun ⟨f, h1, h2, _⟩ => by omega⟩⟩⟩
  exfalso
  simp [List.getD_eq_getElem?_getD, List.getElem?_replicate] at h
  split at h <;> simp at h

/-- The least thread that accepts. -/
theorem acc_none (h : TI a s lo hi at_ T) (hn : ∀ t ∈ T, kindOf a.1 t.1 ≠ 4) {f : Nat} (h1 : lo ≤ f) (h2 : f < hi) : ¬ acc a s f at_ := by
  rintro ⟨q, h3, h4⟩
  obtain ⟨g, g1, g2, g3, g4⟩ := leastN (Q := fun f => On a s f at_ q) h1 h3
  refine hn ((q : Int), (g : Int)) ((h.mem _ _).2 ⟨by omega, by omega, by omega, by simpa using g3, fun f' w1 w2 => ?_⟩) ?_
  · have := g4 f' w1 (by omega)
    simpa using this
  · simpa [kindOf] using h4
theorem acc_first (h : TI a s lo hi at_ T) {k : Nat} (hk : k < T.length) (ha : kindOf a.1 (T.getD k ((0 : Int), (0 : Int))).1 = 4) (hb : ∀ k', k' < k → kindOf a.1 (T.getD k' ((0 : Int), (0 : Int))).1 ≠ 4) :
    ∃ i : Nat, (T.getD k ((0 : Int), (0 : Int))).2 = i ∧ lo ≤ i ∧ i < hi ∧ acc a s i at_ ∧ ∀ f, lo ≤ f → f < i → ¬ acc a s f at_ := by
  rw [getD_eq hk] at ha ⊢
  have hm : T[k] ∈ T := List.getElem_mem hk
  obtain ⟨h1, h2, h3, h4, h5⟩ := (h.mem T[k].1 T[k].2).1 hm
  refine ⟨T[k].2.toNat, by omega, by omega, by omega, ⟨_, h4, ha⟩, ?_⟩
  rintro f w1 w2 ⟨q, w3, w4⟩
  obtain ⟨g, g1, g2, g3, g4⟩ := leastN (Q := fun f => On a s f at_ q) w1 w3
  have hg : ((q : Int), (g : Int)) ∈ T := (h.mem _ _).2 ⟨by omega, by omega, by omega, by simpa using g3, fun f' w1 w2 => by have := g4 f' w1 (by omega); simpa using this⟩
  obtain ⟨k', hk', he⟩ := List.getElem_of_mem hg
  have hlt : k' < k := by
    rcases Nat.lt_trichotomy k' k with e | e | e
    · exact e
    · subst e; rw [he] at w2; dsimp only at w2; omega
    · have := List.pairwise_iff_getElem.1 h.sorted _ _ hk hk' e
      rw [he] at this
      dsimp only at this
      omega
  have := hb k' hlt
  rw [getD_eq hk', he] at this
  exact this (by simpa [kindOf] using w4)
theorem keep_TI (h : TI a s lo hi at_ T) (hs : T'.Sublist T) {i : Nat} (hi1 : i < hi) (hm : ∀ t, t ∈ T' ↔ t ∈ T ∧ t.2 ≤ (i : Int)) : TI a s lo (i + 1) at_ T' := by
  refine ⟨fun q f => ?_, h.sorted.sublist hs, Nat.le_trans hs.length_le h.len⟩
  rw [hm, h.mem]
  constructor
  · rintro ⟨⟨h1, h2, h3, h4, h5⟩, h6⟩
    exact ⟨h1, h2, by dsimp only at h6; omega, h4, h5⟩
  · rintro ⟨h1, h2, h3, h4, h5⟩
    exact ⟨⟨h1, h2, by omega, h4, h5⟩, by dsimp only; omega⟩
end

def Sp_find (P : Program) : Prop := ∀ x : FindIn, Valid x.1 → x.2.1.length ≤ 1099511627776 → 0 ≤ x.2.2 → x.2.2 ≤ x.2.1.length →
  Fn P "mergelens/search.find" S_search_find x fun (d : (Int × Int) × Bool) _ => FndIs x.1 x.2.1 x.2.2.toNat d.1 d.2
theorem sp_find (h : Has P F_search_find) (hSt : Sp_Start P) (hAdd : Sp_Add P) (hAc : Sp_Accepted P) (hK : Sp_Keep P) (hR : Sp_Read P) : Sp_find P := by
  rintro ⟨a, s, p⟩ hv hs hp0 hp1
  refine fn_search_find h ?_
  unfold W_search_find
  dsimp only at hv hs hp0 hp1 ⊢
  have hn := hv.hi
  obtain ⟨p, rfl⟩ : ∃ n : Nat, p = n := ⟨p.toNat, by omega⟩
  rw [show ((p : Int)).toNat = p by omega]
  refine (hSt (a, (s, (p : Int))) hn).to ?_
  rintro (m0 : search_machine) _ rfl
  dsimp only
  refine LoopW.of (fun d => ∃ (at_ : Nat) (T : List (Int × Int)) (seen : List Bool), d.2.2.2.2 = (a, (s, ((at_ : Int), (T, seen)))) ∧ p ≤ at_ ∧ at_ ≤ s.length ∧
      ((d.2.1 = false ∧ d.2.2.2.1 = ((0 : Int), (0 : Int)) ∧ TI a s p at_ at_ T ∧ SI a s p at_ at_ T seen ∧ ∀ f j, p ≤ f → f < at_ → j < at_ → ¬ acc a s f j) ∨
       (d.2.1 = true ∧ ∃ i j : Nat, d.2.2.2.1 = ((i : Int), (j : Int)) ∧ p ≤ i ∧ i < at_ ∧ j < at_ ∧ TI a s p (i + 1) at_ T ∧ acc a s i j ∧ (∀ f j', p ≤ f → f < i → j' < at_ → ¬ acc a s f j') ∧ ∀ j', j' < at_ → acc a s i j' → j' ≤ j))) (fun d => ((s.length : Int) - d.2.2.2.2.2.2.1).toNat) ?_ ?_
  · refine ⟨p, [], List.replicate a.1.length false, rfl, Nat.le_refl _, by omega, .inl ⟨rfl, rfl, start_TI.1, start_TI.2, fun f j h1 h2 => by omega⟩⟩
  · rintro ⟨u1, found, u3, best, m⟩ ⟨at_, T, seen, hm, hp, hat, hI⟩
    dsimp only at hm hI ⊢
    subst hm
    dsimp only
    refine JoinW.of ?_
    -- one more thread, if nothing is found yet
    refine JoinW.mid (fun m => ∃ (hi : Nat) (T : List (Int × Int)) (seen : List Bool), m = (a, (s, ((at_ : Int), (T, seen)))) ∧ TI a s p hi at_ T ∧ hi ≤ at_ + 1 ∧
      ((found = false ∧ best = ((0 : Int), (0 : Int)) ∧ hi = at_ + 1 ∧ ∀ f j, p ≤ f → f < at_ → j < at_ → ¬ acc a s f j) ∨
       (found = true ∧ ∃ i j : Nat, best = ((i : Int), (j : Int)) ∧ p ≤ i ∧ i < at_ ∧ j < at_ ∧ hi = i + 1 ∧ acc a s i j ∧ (∀ f j', p ≤ f → f < i → j' < at_ → ¬ acc a s f j') ∧ ∀ j', j' < at_ → acc a s i j' → j' ≤ j))) ?_ ?_
    · refine ⟨fun hf => JoinW.of ⟨?_, trivial⟩, fun hf => ?_⟩
      · simp at hf
        subst hf
        rcases hI with ⟨_, hb, hT, hS, hno⟩ | ⟨h1, _⟩
        · refine (hAdd ((a, (s, ((at_ : Int), (T, seen)))), (a.2, (at_ : Int))) hv hS.len hS.cnt hv.s0 hv.s1 ?_).to ?_
          · have b1 : stOf (a, (s, ((at_ : Int), (T, seen)))) = (at_ == 0) := boolI rfl 0
            have b2 : enOf (a, (s, ((at_ : Int), (T, seen)))) = (at_ == s.length) := boolI rfl _
            dsimp only
            rw [b1, b2]
            exact hS.closed
          · rintro _ (m : search_machine) ⟨N, A⟩
            obtain ⟨t1, t2⟩ := add_TI A rfl hp hT hS
            exact ⟨at_ + 1, m.2.2.2.1, m.2.2.2.2, machEq A.a A.s A.at_, t1, Nat.le_refl _, .inl ⟨rfl, hb, rfl, hno⟩⟩
        · cases h1
      · simp at hf
        subst hf
        rcases hI with ⟨h1, _⟩ | ⟨_, i, j, hb, h1, h2, h3, h4, h5, h6, h7⟩
        · cases h1
        · exact ⟨i + 1, T, seen, rfl, h4, by omega, .inr ⟨rfl, i, j, hb, h1, h2, h3, rfl, h5, h6, h7⟩⟩
    · rintro m ⟨hi, T, seen, rfl, hT, hhi, hI⟩
      dsimp only
      refine (hAc (a, (s, ((at_ : Int), (T, seen)))) (hT.range hv) (by dsimp only; have := hT.len; omega)).to ?_
      rintro (d : Int) (m2 : search_machine) ⟨rfl, hd⟩
      dsimp only at hd ⊢
      refine JoinW.mid (fun r => ∃ (hi : Nat) (T : List (Int × Int)) (seen : List Bool), r.2.2 = (a, (s, ((at_ : Int), (T, seen)))) ∧ TI a s p hi at_ T ∧ hi ≤ at_ + 1 ∧
        ((r.1 = false ∧ r.2.1 = ((0 : Int), (0 : Int)) ∧ hi = at_ + 1 ∧ ∀ f j, p ≤ f → f < at_ + 1 → j < at_ + 1 → ¬ acc a s f j) ∨
         (r.1 = true ∧ ∃ i j : Nat, r.2.1 = ((i : Int), (j : Int)) ∧ p ≤ i ∧ i < at_ + 1 ∧ j < at_ + 1 ∧ hi = i + 1 ∧ acc a s i j ∧ (∀ f j', p ≤ f → f < i → j' < at_ + 1 → ¬ acc a s f j') ∧ ∀ j', j' < at_ + 1 → acc a s i j' → j' ≤ j))) ?_ ?_
      · refine ⟨fun hc => ?_, fun hc => ?_⟩
        · have hc := of_decide_eq_true hc
          rcases hd with ⟨rfl, _⟩ | ⟨k, hk, rfl, ha, hb⟩
          · omega
          · obtain ⟨i, ei, i1, i2, i3, i4⟩ := acc_first hT hk ha hb
            rw [ei]
            refine (hK ((a, (s, ((at_ : Int), (T, seen)))), (i : Int)) (by dsimp only; have := hT.len; omega) hT.sorted).to ?_
            rintro _ (m : search_machine) ⟨m1, m2, m3, m4, m5, m6⟩
            dsimp only at m1 m2 m3 m4 m5 m6 ⊢
            refine ⟨i + 1, m.2.2.2.1, m.2.2.2.2, machEq m1 m2 m3, keep_TI hT m5 i2 m6, by omega, .inr ⟨rfl, i, at_, rfl, i1, by omega, by omega, rfl, i3, fun f j' w1 w2 w3 w4 => ?_, fun j' w1 w2 => by omega⟩⟩
            · by_cases e : j' = at_
              · subst e; exact i4 f w1 w2 w4
              · rcases hI with ⟨_, _, e2, hno⟩ | ⟨_, i', j2, _, z1, z2, z3, z4, z5, z6, z7⟩
                · exact hno f j' w1 (by omega) (by omega) w4
                · exact z6 f j' w1 (by omega) (by omega) w4
        · have hc := of_decide_eq_false hc
          rcases hd with ⟨rfl, hn⟩ | ⟨k, hk, rfl, ha, hb⟩
          · refine ⟨hi, T, seen, rfl, hT, hhi, ?_⟩
            rcases hI with ⟨w1, w2, w3, hno⟩ | ⟨w1, i', j2, w2, z1, z2, z3, z4, z5, z6, z7⟩
            · refine .inl ⟨w1, w2, w3, fun f j h1 h2 h3 h4 => ?_⟩
              by_cases e : j = at_
              · subst e; exact acc_none hT hn h1 (by omega) h4
              · by_cases e2 : f = at_
                · subst e2; have := h4.le; omega
                · exact hno f j h1 (by omega) (by omega) h4
            · refine .inr ⟨w1, i', j2, w2, z1, by omega, by omega, z4, z5, fun f j' h1 h2 h3 h4 => ?_, fun j' h1 h2 => ?_⟩
              · by_cases e : j' = at_
                · subst e; exact acc_none hT hn h1 (by omega) h4
                · exact z6 f j' h1 h2 (by omega) h4
              · by_cases e : j' = at_
                · subst e; exact (acc_none hT hn z1 (by omega) h2).elim
                · exact z7 j' (by omega) h2
          · obtain ⟨i, ei, _⟩ := acc_first hT hk ha hb
            omega
      · rintro ⟨fd, bs, m⟩ ⟨hi, T, seen, hm, hT, hhi, hI⟩
        dsimp only at hm hI ⊢
        subst hm
        dsimp only
        refine ⟨fun hc => ?_, fun hc => ?_⟩
        · simp at hc
          rcases hI with ⟨rfl, rfl, rfl, hno⟩ | ⟨rfl, i, j, rfl, z1, z2, z3, rfl, z5, z6, z7⟩
          · have hc : at_ = s.length := by
              rcases hc with hc | ⟨hc, _⟩
              · omega
              · cases hc
            refine .inr ⟨rfl, rfl, fun i j h1 h2 h3 => hno i j h1 (by omega) ?_ h3⟩
            have := h3.le_len h2; omega
          · refine .inl ⟨rfl, i, j, rfl, z1, by omega, z5, fun i' j' h1 h2 h3 => ?_, fun j' h1 => ?_⟩
            · apply Classical.byContradiction
              intro hlt
              by_cases e : j' < at_ + 1
              · exact z6 i' j' h1 (by omega) e h2
              · rcases hc with hc | ⟨_, hc⟩
                · have := h2.le_len h3; omega
                · obtain ⟨q, hq, _⟩ := h2
                  obtain ⟨q', hq'⟩ := on_back (j := at_) hq (by omega) (by omega)
                  obtain ⟨g, g1, g2, g3, g4⟩ := leastN (Q := fun f => On a s f at_ q') h1 hq'
                  have : ((q' : Int), (g : Int)) ∈ T := (hT.mem _ _).2 ⟨by omega, by omega, by omega, by simpa using g3, fun f' w1 w2 => by have := g4 f' w1 (by omega); simpa using this⟩
                  rw [hc] at this; cases this
            · apply Classical.byContradiction
              intro hlt
              by_cases e : j' < at_ + 1
              · exact hlt (z7 j' e h1)
              · rcases hc with hc | ⟨_, hc⟩
                · have := h1.le_len (by omega); omega
                · obtain ⟨q, hq, _⟩ := h1
                  obtain ⟨q', hq'⟩ := on_back (j := at_) hq (by omega) (by omega)
                  obtain ⟨g, g1, g2, g3, g4⟩ := leastN (Q := fun f => On a s f at_ q') z1 hq'
                  have : ((q' : Int), (g : Int)) ∈ T := (hT.mem _ _).2 ⟨by omega, by omega, by omega, by simpa using g3, fun f' w1 w2 => by have := g4 f' w1 (by omega); simpa using this⟩
                  rw [hc] at this; cases this
        · simp at hc
          obtain ⟨hc1, hc2⟩ := hc
          have hlt : at_ < s.length := by omega
          refine (hR (a, (s, ((at_ : Int), (T, seen)))) hv hs (by dsimp only; omega) (by dsimp only; omega) (by dsimp only; have := hT.len; omega) (hT.range hv) hT.sorted).to ?_
          rintro _ (m : search_machine) ⟨m1, m2, m3, R⟩
          dsimp only at m1 m2 m3 R ⊢
          obtain ⟨t1, t2⟩ := read_TI hT hhi hlt rfl R
          have em : m = (a, (s, (((at_ + 1 : Nat) : Int), (m.2.2.2.1, m.2.2.2.2)))) := by
            have e3 : m.2.2.1 = ((at_ + 1 : Nat) : Int) := by rw [m3]; omega
            exact machEq m1 m2 e3
          refine ⟨⟨at_ + 1, m.2.2.2.1, m.2.2.2.2, em, by omega, hlt, ?_⟩, by rw [m3]; omega⟩
          rcases hI with ⟨rfl, rfl, rfl, hno⟩ | ⟨rfl, i, j, rfl, z1, z2, z3, rfl, z5, z6, z7⟩
          · exact .inl ⟨rfl, rfl, t1, t2, hno⟩
          · exact .inr ⟨rfl, i, j, rfl, z1, z2, z3, t1, z5, z6, z7⟩
end Go.VS
