/- The statements about layer 6, shown. -/
import Derived.Test.YtobddjdmgebmgaaKSpLaw06
set_option linter.unusedVariables false
set_option linter.unusedSimpArgs false
set_option linter.unusedSectionVars false
namespace Go.VS
variable {P : Program}

theorem sp_SearchAll (h : Has P F_law06_SearchAll) (hMd : Sp_made06 P) (hWd : Sp_word06 P) (hAll : Sp_All P) (hR : Sp_RAll P) (hSp : Sp_Spans P) (hAw : Sp_awake06 P) (x : List Int × Int) :
    Fn P "mergelens/mergelenslaw06.SearchAll" S_law06_SearchAll x fun (d : Bool) _ => d = true := by
  obtain ⟨raw, n⟩ := x
  refine fn_law06_SearchAll h ?_
  unfold W_law06_SearchAll
  dsimp only
  refine (hMd (raw, n)).to ?_
  rintro (a : Auto) _ ha
  have hv : Valid a := by
    have ha : a = madeF raw n 6 := ha
    rw [ha]; exact madeF_valid raw n (by decide) (by decide)
  clear ha
  refine (hWd (raw, 50) (by dsimp only; omega) (by dsimp only; omega)).to ?_
  rintro (s : List UInt8) _ hs
  have hs : s.length ≤ 8 := hs
  refine (hAll (a, s) (by dsimp only; omega)).to ?_
  rintro (d5 : List (Int × Int) × Int) _ h5
  refine (hR (a, s) (by dsimp only; omega)).to ?_
  rintro (d7 : List (Int × Int) × Int) _ h7
  obtain rfl := AllPost.uniq h5 h7
  obtain ⟨l, e⟩ := d5
  dsimp only
  have hll : l.length ≤ 1099511627776 := by
    obtain ⟨_, hA⟩ := h5.2 hv
    have : ∀ {p : Nat} {l : List (Int × Int)}, AllFrom a s p l → l.length + p ≤ s.length + 1 ∨ l = [] := by
      intro p l hA
      induction hA with
      | stop => exact .inr rfl
      | none => exact .inr rfl
      | next h1 f t ih =>
        rename_i p i j l
        have := f.ge; have := f.is.le; have := f.is.le_len f.le
        left
        rcases ih with h2 | rfl
        · simp only [List.length_cons]; split at h2 <;> omega
        · simp only [List.length_cons, List.length_nil]; omega
    rcases this hA with h | h
    · dsimp only at h hs ⊢; omega
    · dsimp only at h; rw [h]; simp
  refine JoinW.mid (fun d => d = true) ⟨fun _ => (hSp (l, l) hll).to ?_, fun hb => ?_, trivial⟩ ?_
  · rintro (d : Bool) _ hd
    exact hd.2 rfl
  · simp at hb
  rintro d rfl
  refine JoinW.mid (fun d => d = true) ⟨fun _ => Fn.to hAw fun (d : Bool) _ hd => hd, fun hb => ?_, trivial⟩ ?_
  · simp at hb
  rintro d rfl
  simp

theorem sp_SearchFinds (h : Has P F_law06_SearchFinds) (hMo : Sp_Mod P) (hMd : Sp_made06 P) (hWd : Sp_word06 P) (hW : Sp_Whole P) (hRW : Sp_RWhole P) (hA : Sp_Any P) (hRA : Sp_RAny P) (hF : Sp_Find P) (hRF : Sp_RFind P) (hAw : Sp_awake06 P) (x : List Int × (Int × (Int × Bool))) :
    Fn P "mergelens/mergelenslaw06.SearchFinds" S_law06_SearchFinds x fun (d : Bool) _ => d = true := by
  obtain ⟨raw, n, fr, fit⟩ := x
  refine fn_law06_SearchFinds h ?_
  unfold W_law06_SearchFinds
  dsimp only
  refine (hMd (raw, n)).to ?_
  rintro (a : Auto) _ _
  refine (hWd (raw, 50) (by dsimp only; omega) (by dsimp only; omega)).to ?_
  rintro (s : List UInt8) _ hs
  have hs : s.length ≤ 8 := hs
  have hs2 : (a, s).2.length ≤ 1099511627776 := by dsimp only; omega
  refine JoinW.mid (fun _ => True) ⟨fun _ => hMo.at ?_ ?_ trivial, fun _ => trivial⟩ ?_
  · rw [w64 (by omega) (by omega)]; omega
  · rw [w64 (by omega) (by omega)]; omega
  intro p _
  refine (hW (a, s) hs2).to ?_
  rintro (d1 : Bool × Int) _ h1
  refine (hRW (a, s) hs2).to ?_
  rintro (d2 : Bool × Int) _ h2
  obtain rfl := WholePost.uniq h1 h2
  refine (hA (a, s) hs2).to ?_
  rintro (d3 : Bool × Int) _ h3
  refine (hRA (a, s) hs2).to ?_
  rintro (d4 : Bool × Int) _ h4
  obtain rfl := AnyPost.uniq h3 h4
  refine (hF (a, (s, p)) (by dsimp only; omega)).to ?_
  rintro (d5 : (Int × Int) × (Bool × Int)) _ h5
  refine (hRF (a, (s, p)) (by dsimp only; omega)).to ?_
  rintro (d6 : (Int × Int) × (Bool × Int)) _ h6
  obtain rfl := FindPost.uniq h5 h6
  refine JoinW.mid (fun d => d = true) ⟨fun _ => Fn.to hAw fun (d : Bool) _ hd => hd, fun hb => ?_, trivial⟩ ?_
  · simp at hb
  rintro d rfl
  simp

theorem sp_SearchRefuses (h : Has P F_law06_SearchRefuses) (hC : Sp_RCheck P) (hW : Sp_Whole P) (hA : Sp_Any P) (hF : Sp_Find P) (hAll : Sp_All P) (hAw : Sp_awake06 P) (x : Auto × (List UInt8 × Int)) :
    Fn P "mergelens/mergelenslaw06.SearchRefuses" S_law06_SearchRefuses x fun (d : Bool) _ => d = true := by
  obtain ⟨a, s, fr⟩ := x
  refine fn_law06_SearchRefuses h ?_
  unfold W_law06_SearchRefuses
  dsimp only
  refine ⟨fun _ => Fn.to hAw fun (d : Bool) _ hd => hd, fun hg => ?_⟩
  simp at hg
  have hs2 : (a, s).2.length ≤ 1099511627776 := by dsimp only; omega
  have hw : IntKind.i64.wrap (((List.length s : Nat) : Int) + 1) = s.length + 1 := w64 (by omega) (by omega)
  rw [hw]
  refine (hC a).to ?_
  rintro (e : Int) _ ⟨c1, c2⟩
  refine ⟨fun hb => ?_, fun hb => ?_⟩
  · have hv : Valid a := Classical.byContradiction fun v => by rw [c2 v] at hb; simp at hb
    refine (hF (a, (s, (s.length : Int) + 1)) (by dsimp only; omega)).to ?_
    rintro (d5 : (Int × Int) × (Bool × Int)) _ h5
    obtain rfl := (h5.2 hv).1 (by dsimp only; omega)
    refine (hF (a, (s, -1)) (by dsimp only; omega)).to ?_
    rintro (d7 : (Int × Int) × (Bool × Int)) _ h7
    obtain rfl := (h7.2 hv).1 (by dsimp only; omega)
    refine JoinW.mid (fun d => d = true) ⟨fun _ => Fn.to hAw fun (d : Bool) _ hd => hd, fun hb => ?_, trivial⟩ ?_
    · simp at hb
    rintro d rfl
    simp
  · have hv : ¬ Valid a := fun v => by rw [c1 v] at hb; simp at hb
    refine (hW (a, s) hs2).to ?_
    rintro (d1 : Bool × Int) _ h1
    obtain rfl := h1.1 hv
    refine (hA (a, s) hs2).to ?_
    rintro (d2 : Bool × Int) _ h2
    obtain rfl := h2.1 hv
    refine (hF (a, (s, fr)) (by dsimp only; omega)).to ?_
    rintro (d3 : (Int × Int) × (Bool × Int)) _ h3
    obtain rfl := h3.1 hv
    refine (hAll (a, s) hs2).to ?_
    rintro (d4 : List (Int × Int) × Int) _ h4
    obtain rfl := h4.1 hv
    refine JoinW.mid (fun d => d = true) ⟨fun _ => Fn.to hAw fun (d : Bool) _ hd => hd, fun hb => ?_, trivial⟩ ?_
    · simp at hb
    rintro d rfl
    simp

theorem sp_SearchDisjoint (h : Has P F_law06_SearchDisjoint) (hMd : Sp_made06 P) (hWd : Sp_word06 P) (hA : Sp_Any P) (hF : Sp_Find P) (hAll : Sp_All P) (hAw : Sp_awake06 P) (x : List Int × Int) :
    Fn P "mergelens/mergelenslaw06.SearchDisjoint" S_law06_SearchDisjoint x fun (d : Bool) _ => d = true := by
  obtain ⟨raw, n⟩ := x
  refine fn_law06_SearchDisjoint h ?_
  unfold W_law06_SearchDisjoint
  dsimp only
  refine (hMd (raw, n)).to ?_
  rintro (a : Auto) _ ha
  have hv : Valid a := by
    have ha : a = madeF raw n 6 := ha
    rw [ha]; exact madeF_valid raw n (by decide) (by decide)
  clear ha
  refine (hWd (raw, 50) (by dsimp only; omega) (by dsimp only; omega)).to ?_
  rintro (s : List UInt8) _ hs
  have hs : s.length ≤ 8 := hs
  have hs2 : (a, s).2.length ≤ 1099511627776 := by dsimp only; omega
  refine (hA (a, s) hs2).to ?_
  rintro (d1 : Bool × Int) _ h1
  refine (hF (a, (s, 0)) (by dsimp only; omega)).to ?_
  rintro (d2 : (Int × Int) × (Bool × Int)) _ h2
  refine (hAll (a, s) hs2).to ?_
  rintro (d3 : List (Int × Int) × Int) _ h3
  obtain ⟨a1, a2⟩ := h1.2 hv
  obtain ⟨b1, b2⟩ := (h2.2 hv).2 ⟨by dsimp only; omega, by dsimp only; omega⟩
  obtain ⟨c1, c2⟩ := h3.2 hv
  have hfa := FndIs.any b2
  dsimp only at a2 b1 b2 c1 c2 hfa
  obtain ⟨y, e1⟩ := d1
  obtain ⟨p2, ok, e2⟩ := d2
  obtain ⟨l, e3⟩ := d3
  dsimp only at a1 a2 b1 b2 c1 c2 hfa ⊢
  subst a1 b1 c1
  have hyo : y = ok := boolUniq a2 hfa
  subst hyo
  have hlo : (decide (((List.length l : Nat) : Int) > 0)) = y := by
    rw [Bool.eq_iff_iff, hfa]
    cases c2 with
    | stop h => omega
    | none h n => simp; exact n
    | next h f t => simp; exact f.not
  rw [hlo]
  refine ⟨fun hb => by simp at hb, fun _ => ?_⟩
  refine JoinW.mid (fun d => 0 ≤ d.2 ∧ AllFrom a s d.2.toNat []) ?_ ?_
  · refine LoopW.of (fun d => 0 ≤ d.2.1 ∧ d.2.1 ≤ s.length + 1 ∧ 0 ≤ d.2.2 ∧ d.2.2 ≤ l.length ∧ AllFrom a s d.2.1.toNat (l.drop d.2.2.toNat) ∧ l.length ≤ 100) (fun d => (l.length - d.2.2).toNat) ⟨Int.le_refl _, by dsimp only; omega, Int.le_refl _, by dsimp only; omega, by simpa using c2, ?_⟩ ?_
    · have : ∀ {p : Nat} {l : List (Int × Int)}, AllFrom a s p l → l.length + p ≤ s.length + 1 ∨ l = [] := by
        intro p l hA
        induction hA with
        | stop => exact .inr rfl
        | none => exact .inr rfl
        | next h1 f t ih =>
          rename_i p i j l
          have := f.ge; have := f.is.le; have := f.is.le_len f.le
          left
          rcases ih with h2 | rfl
          · simp only [List.length_cons]; split at h2 <;> omega
          · simp only [List.length_cons, List.length_nil]; omega
      rcases this c2 with h | h
      · omega
      · rw [h]; simp
    · rintro ⟨u, p, k⟩ ⟨p0, p1, k0, k1, hA, hl⟩
      dsimp only at p0 p1 k0 k1 hA hl ⊢
      refine ⟨fun hc => JoinW.of ?_, fun hc => ?_⟩
      · have hc := of_decide_eq_true hc
        have hk : k.toNat < l.length := by omega
        rw [List.drop_eq_getElem_cons hk] at hA
        have eget : l.getD k.toNat ((0 : Int), (0 : Int)) = l[k.toNat] := getD_eq hk
        rw [eget]
        generalize l[k.toNat] = g at hA
        cases hA with
        | next hp f t =>
        rename_i i j
        dsimp only
        refine (hF (a, (s, p)) (by dsimp only; omega)).to ?_
        rintro (d : (Int × Int) × (Bool × Int)) _ hd
        obtain ⟨q1, q2⟩ := (hd.2 hv).2 ⟨p0, by dsimp only; omega⟩
        dsimp only at q1 q2
        have hfi : FndIs a s p.toNat ((i : Int), (j : Int)) true := .inl ⟨rfl, i, j, rfl, f⟩
        obtain ⟨z1, z2⟩ := q2.uniq hfi
        obtain ⟨dd, ok, er⟩ := d
        dsimp only at q1 z1 z2
        subst q1 z1 z2
        dsimp only
        have := f.ge; have := f.is.le; have := f.is.le_len f.le
        have ob1 : 0 ≤ k ∧ k < ((List.length l : Nat) : Int) := ⟨k0, hc⟩
        refine ⟨fun _ => ob1, fun _ => hk, fun _ => ob1, fun _ => hk, fun _ => ob1, fun _ => hk, fun _ => ob1, fun _ => hk, fun _ => ob1, fun _ => hk, fun hb => ?_, fun hb => ?_⟩
        · exfalso
          simp at hb
          omega
        · refine ⟨ob1, hk, ob1, hk, ob1, hk, ?_⟩
          rw [w64 (n := k + 1) (by omega) (by omega), w64 (n := (j : Int) + 1) (by omega) (by omega)]
          refine JoinW.mid (fun q => q = (((if j = i then j + 1 else j) : Nat) : Int)) ⟨fun he => ?_, fun he => ?_⟩ ?_
          · simp at he
            rw [if_pos (by omega)]; omega
          · simp at he
            rw [if_neg (by omega)]
          · rintro q rfl
            refine ⟨⟨by omega, by split <;> omega, by omega, by omega, ?_, hl⟩, by omega⟩
            rw [show (k + 1).toNat = k.toNat + 1 by omega]
            simpa using t
      · have hc := of_decide_eq_false hc
        have : l.drop k.toNat = [] := List.drop_eq_nil_of_le (by omega)
        rw [this] at hA
        exact ⟨p0, hA⟩
  · rintro ⟨u, p⟩ ⟨p0, hA⟩
    dsimp only at p0 hA ⊢
    refine ⟨fun _ => Fn.to hAw fun (d : Bool) _ hd => hd, fun hc => ?_⟩
    have hc := of_decide_eq_false hc
    refine (hF (a, (s, p)) (by dsimp only; omega)).to ?_
    rintro (d : (Int × Int) × (Bool × Int)) _ hd
    obtain ⟨q1, q2⟩ := (hd.2 hv).2 ⟨p0, by dsimp only; omega⟩
    have hn : NotFnd a s p.toNat := by
      cases hA with
      | stop h => omega
      | none _ n => exact n
    have q3 : FndIs a s p.toNat (0, 0) false := .inr ⟨rfl, rfl, hn⟩
    obtain ⟨z1, z2⟩ := FndIs.uniq q2 q3
    obtain ⟨dd, ok, er⟩ := d
    dsimp only at q1 z1 z2
    subst q1 z1 z2
    refine JoinW.mid (fun d => d = true) ⟨fun _ => Fn.to hAw fun (d : Bool) _ hd => hd, fun hb => ?_, trivial⟩ ?_
    · simp at hb
    rintro d rfl
    simp
end Go.VS
