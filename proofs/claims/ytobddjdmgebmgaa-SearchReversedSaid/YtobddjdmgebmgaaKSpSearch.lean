/- Whole, Any, Find, All: the program's and the document's. -/
import Derived.Test.YtobddjdmgebmgaaKSpFind
set_option linter.unusedVariables false
set_option linter.unusedSimpArgs false
set_option linter.unusedSectionVars false
namespace Go.VS
variable {P : Program}

abbrev TextIn := Auto × List UInt8
inductive AllFrom (a : Auto) (s : List UInt8) : Nat → List (Int × Int) → Prop
  | stop {p : Nat} (h : s.length < p) : AllFrom a s p []
  | none {p : Nat} (h : p ≤ s.length) (n : NotFnd a s p) : AllFrom a s p []
  | next {p i j : Nat} {l : List (Int × Int)} (h : p ≤ s.length) (f : Fnd a s p i j) (t : AllFrom a s (if j = i then j + 1 else j) l) : AllFrom a s p (((i : Int), (j : Int)) :: l)
theorem AllFrom.uniq {a : Auto} {s : List UInt8} {p : Nat} {l m : List (Int × Int)} (h : AllFrom a s p l) (k : AllFrom a s p m) : l = m := by
  induction h generalizing m with
  | stop h =>
    cases k with
    | stop => rfl
    | none => rfl
    | next h2 f t => omega
  | none h n =>
    cases k with
    | stop => rfl
    | none => rfl
    | next h2 f t => exact (f.not n).elim
  | next h f t ih =>
    cases k with
    | stop h2 => omega
    | none h2 n => exact (f.not n).elim
    | next h2 f2 t2 =>
      obtain ⟨rfl, rfl⟩ := f.uniq f2
      rw [ih t2]
def AllPost (x : TextIn) (d : List (Int × Int) × Int) : Prop := (¬ Valid x.1 → d = ([], 2)) ∧ (Valid x.1 → d.2 = 0 ∧ AllFrom x.1 x.2 0 d.1)
theorem AllPost.uniq {x : TextIn} {d d' : List (Int × Int) × Int} (h : AllPost x d) (k : AllPost x d') : d = d' := by
  by_cases v : Valid x.1
  · obtain ⟨h1, h2⟩ := h.2 v
    obtain ⟨k1, k2⟩ := k.2 v
    obtain ⟨d1, d2⟩ := d
    obtain ⟨d1', d2'⟩ := d'
    dsimp only at h1 h2 k1 k2
    subst h1 k1
    rw [h2.uniq k2]
  · rw [h.1 v, k.1 v]

def Sp_All (P : Program) : Prop := ∀ x : TextIn, x.2.length ≤ 1099511627776 → Fn P "mergelens/search.All" S_search_All x fun (d : List (Int × Int) × Int) _ => AllPost x d
theorem sp_All (h : Has P F_search_All) (hC : Sp_ACheck P) (hF : Sp_find P) : Sp_All P := by
  rintro ⟨a, s⟩ hs
  dsimp only at hs ⊢
  refine fn_search_All h ?_
  unfold W_search_All
  dsimp only
  refine (hC a).to ?_
  rintro (e : Int) _ ⟨c1, c2⟩
  refine ⟨fun hb => ⟨fun n => by rw [c2 n], fun v => by rw [c1 v] at hb; simp at hb⟩, fun hb => ?_⟩
  have hv : Valid a := Classical.byContradiction fun v => by rw [c2 v] at hb; simp at hb
  refine JoinW.mid (fun l => AllFrom a s 0 l) ?_ fun l hl => ⟨fun n => (n hv).elim, fun _ => ⟨rfl, hl⟩⟩
  refine LoopW.of (fun d => 0 ≤ d.2 ∧ d.2 ≤ s.length + 1 ∧ (d.1.length : Int) ≤ d.2 ∧ ∀ r, AllFrom a s d.2.toNat r → AllFrom a s 0 (d.1 ++ r)) (fun d => (s.length + 1 - d.2).toNat) ⟨Int.le_refl _, by dsimp only; omega, by simp, fun r hr => hr⟩ ?_
  rintro ⟨out, p⟩ ⟨p0, p1, hl, hr⟩
  dsimp only at p0 p1 hl hr ⊢
  refine ⟨fun hc => JoinW.of ?_, fun hc => ?_⟩
  · have hc := of_decide_eq_true hc
    refine (hF (a, (s, p)) hv hs p0 hc).to ?_
    rintro (d : (Int × Int) × Bool) _ hd2
    dsimp only at hd2
    rcases hd2 with ⟨ok, i, j, hij, hf⟩ | ⟨ok, hij, hn⟩
    · refine ⟨fun hh => by rw [ok] at hh; simp at hh, fun _ => ?_⟩
      rw [hij]
      dsimp only
      have := hf.ge
      have hij2 := hf.is.le
      have hjl := hf.is.le_len hf.le
      rw [w64 (by omega) (by omega)]
      have eq : (if ((i : Int) + 1 > (j : Int)) then ((i : Int) + 1) else (j : Int)) = (((if j = i then j + 1 else j) : Nat) : Int) := by split <;> split <;> omega
      rw [eq]
      have hq : p < (((if j = i then j + 1 else j) : Nat) : Int) ∧ (((if j = i then j + 1 else j) : Nat) : Int) ≤ s.length + 1 := by split <;> omega
      refine ⟨by simp only [List.length_cons, List.length_nil]; omega, ⟨by omega, hq.2, by simp only [List.length_append, List.length_cons, List.length_nil]; omega, fun r h2 => ?_⟩, by omega⟩
      rw [List.append_assoc]
      refine hr _ (.next (by omega) hf ?_)
      simpa using h2
    · refine ⟨fun _ => ?_, fun hh => by rw [ok] at hh; simp at hh⟩
      have := hr [] (.none (by omega) hn)
      simpa using this
  · have hc := of_decide_eq_false hc
    have := hr [] (.stop (by omega))
    simpa using this

/-- Is there a match? -/
def AnyPost (x : TextIn) (d : Bool × Int) : Prop := (¬ Valid x.1 → d = (false, 2)) ∧ (Valid x.1 → d.2 = 0 ∧ (d.1 = true ↔ ¬ NotFnd x.1 x.2 0))
theorem boolUniq {b c : Bool} {p : Prop} (h : b = true ↔ p) (k : c = true ↔ p) : b = c := by rw [Bool.eq_iff_iff]; exact h.trans k.symm
theorem AnyPost.uniq {x : TextIn} {d d' : Bool × Int} (h : AnyPost x d) (k : AnyPost x d') : d = d' := by
  by_cases v : Valid x.1
  · obtain ⟨h1, h2⟩ := h.2 v
    obtain ⟨k1, k2⟩ := k.2 v
    obtain ⟨d1, d2⟩ := d
    obtain ⟨d1', d2'⟩ := d'
    dsimp only at h1 h2 k1 k2
    subst h1 k1
    rw [boolUniq h2 k2]
  · rw [h.1 v, k.1 v]
/-- Is the whole text a match? -/
def WholePost (x : TextIn) (d : Bool × Int) : Prop := (¬ Valid x.1 → d = (false, 2)) ∧ (Valid x.1 → d.2 = 0 ∧ (d.1 = true ↔ acc x.1 x.2 0 x.2.length))
theorem WholePost.uniq {x : TextIn} {d d' : Bool × Int} (h : WholePost x d) (k : WholePost x d') : d = d' := by
  by_cases v : Valid x.1
  · obtain ⟨h1, h2⟩ := h.2 v
    obtain ⟨k1, k2⟩ := k.2 v
    obtain ⟨d1, d2⟩ := d
    obtain ⟨d1', d2'⟩ := d'
    dsimp only at h1 h2 k1 k2
    subst h1 k1
    rw [boolUniq h2 k2]
  · rw [h.1 v, k.1 v]
def Sp_Whole (P : Program) : Prop := ∀ x : TextIn, x.2.length ≤ 1099511627776 → Fn P "mergelens/search.Whole" S_search_Whole x fun (d : Bool × Int) _ => WholePost x d
theorem sp_Whole (h : Has P F_search_Whole) (hC : Sp_ACheck P) (hSt : Sp_Start P) (hAdd : Sp_Add P) (hAc : Sp_Accepted P) (hR : Sp_Read P) : Sp_Whole P := by
  rintro ⟨a, s⟩ hs
  dsimp only at hs ⊢
  refine fn_search_Whole h ?_
  unfold W_search_Whole
  dsimp only
  refine (hC a).to ?_
  rintro (e : Int) _ ⟨c1, c2⟩
  refine ⟨fun hb => ⟨fun n => by rw [c2 n], fun v => by rw [c1 v] at hb; simp at hb⟩, fun hb => ?_⟩
  have hv : Valid a := Classical.byContradiction fun v => by rw [c2 v] at hb; simp at hb
  have hn := hv.hi
  refine (hSt (a, (s, (0 : Int))) hn).to ?_
  rintro (m0 : search_machine) _ rfl
  dsimp only
  obtain ⟨t1, t2⟩ := start_TI (a := a) (s := s) (lo := 0) (at_ := 0)
  refine (hAdd ((a, (s, ((0 : Int), ([], List.replicate a.1.length false)))), (a.2, (0 : Int))) hv t2.len t2.cnt hv.s0 hv.s1 ?_).to ?_
  · have b1 : stOf (a, (s, ((0 : Int), ([], List.replicate a.1.length false)))) = ((0 : Nat) == 0) := boolI rfl 0
    have b2 : enOf (a, (s, ((0 : Int), ([], List.replicate a.1.length false)))) = ((0 : Nat) == s.length) := boolI rfl _
    dsimp only
    rw [b1, b2]
    exact t2.closed
  rintro _ (m : search_machine) ⟨N, A⟩
  obtain ⟨u1, u2⟩ := add_TI (at_ := 0) (lo := 0) A rfl (Nat.le_refl _) t1 t2
  refine JoinW.mid (fun m => ∃ (at_ : Nat) (T : List (Int × Int)) (seen : List Bool), m = (a, (s, ((at_ : Int), (T, seen)))) ∧ at_ ≤ s.length ∧ TI a s 0 1 at_ T ∧ (at_ = s.length ∨ T = [])) ?_ ?_
  · refine LoopW.of (fun m => ∃ (at_ : Nat) (T : List (Int × Int)) (seen : List Bool), m = (a, (s, ((at_ : Int), (T, seen)))) ∧ at_ ≤ s.length ∧ TI a s 0 1 at_ T) (fun m => ((s.length : Int) - m.2.2.1).toNat) ?_ ?_
    · exact ⟨0, m.2.2.2.1, m.2.2.2.2, machEq A.a A.s A.at_, Nat.zero_le _, u1⟩
    · rintro m ⟨at_, T, seen, rfl, hat, hT⟩
      dsimp only
      refine ⟨fun hc => JoinW.of ?_, fun hc => ?_⟩
      · simp at hc
        refine (hR (a, (s, ((at_ : Int), (T, seen)))) hv hs (by dsimp only; omega) (by dsimp only; omega) (by dsimp only; have := hT.len; omega) (hT.range hv) hT.sorted).to ?_
        rintro _ (m : search_machine) ⟨m1, m2, m3, R⟩
        dsimp only at m1 m2 m3 R ⊢
        obtain ⟨t1, t2⟩ := read_TI hT (by omega) (by omega) rfl R
        have e3 : m.2.2.1 = ((at_ + 1 : Nat) : Int) := by rw [m3]; omega
        exact ⟨⟨at_ + 1, m.2.2.2.1, m.2.2.2.2, machEq m1 m2 e3, by omega, t1⟩, by rw [m3]; omega⟩
      · refine ⟨at_, T, seen, rfl, hat, hT, ?_⟩
        simp at hc
        by_cases e : at_ = s.length
        · exact .inl e
        · right
          have := hc (by omega)
          cases T with
          | nil => rfl
          | cons => simp at this
  · rintro m ⟨at_, T, seen, rfl, hat, hT, hend⟩
    try dsimp only
    refine (hAc (a, (s, ((at_ : Int), (T, seen)))) (hT.range hv) (by dsimp only; have := hT.len; omega)).to ?_
    rintro (d : Int) (m2 : search_machine) ⟨rfl, hd⟩
    dsimp only at hd ⊢
    refine ⟨fun n => (n hv).elim, fun _ => ⟨rfl, ?_⟩⟩
    simp only [decide_eq_true_eq, ge_iff_le]
    rcases hd with ⟨rfl, hno⟩ | ⟨k, hk, rfl, ha, hb⟩
    · refine ⟨fun h => by omega, fun h => ?_⟩
      exfalso
      rcases hend with rfl | rfl
      · exact acc_none hT hno (Nat.le_refl 0) (by omega) h
      · obtain ⟨q, hq, _⟩ := h
        obtain ⟨q', hq'⟩ := on_back (j := at_) hq (Nat.zero_le _) hat
        have : ((q' : Int), ((0 : Nat) : Int)) ∈ ([] : List (Int × Int)) := (hT.mem _ _).2 ⟨by omega, by omega, by omega, by simpa using hq', fun f' w1 w2 => by omega⟩
        cases this
    · obtain ⟨i, ei, i1, i2, i3, i4⟩ := acc_first hT hk ha hb
      have : i = 0 := by omega
      subst this
      rw [ei]
      refine ⟨fun _ => ?_, fun _ => by omega⟩
      rcases hend with rfl | rfl
      · exact i3
      · cases hk
end Go.VS
