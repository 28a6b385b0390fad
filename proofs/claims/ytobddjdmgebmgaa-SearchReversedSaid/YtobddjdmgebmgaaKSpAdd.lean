/- A machine's threads: one added with all that it becomes. -/
import Derived.Test.YtobddjdmgebmgaaKSpRefs
set_option linter.unusedVariables false
set_option linter.unusedSimpArgs false
set_option linter.unusedSectionVars false
namespace Go.VS
variable {P : Program}

def stepsF (x : State) (st en : Bool) : List Int :=
  if x.1 = 1 then [x.2.2.1, x.2.2.2] else if x.1 = 2 then (if st then [x.2.2.1] else []) else if x.1 = 3 then (if en then [x.2.2.1] else []) else []
theorem stepsF_len (x : State) (st en : Bool) : (stepsF x st en).length ≤ 2 := by
  unfold stepsF
  split
  · simp
  · split
    · split <;> simp
    · split
      · split <;> simp
      · simp
theorem stepsF_eps {A : List State} (hA : OkL A) {i : Nat} (hi : i < A.length) (st en : Bool) : (∀ q ∈ stepsF (A.getD i zState) st en, 0 ≤ q ∧ q < A.length ∧ epsR A st en i q.toNat) ∧ ∀ j, epsR A st en i j → (j : Int) ∈ stepsF (A.getD i zState) st en := by
  obtain ⟨h1, h2, h3, h4⟩ := hA i hi
  unfold stepsF epsR
  generalize A.getD i zState = x at h1 h2 h3 h4 ⊢
  obtain ⟨k, set, nx, ot⟩ := x
  dsimp only at h1 h2 h3 h4 ⊢
  constructor
  · intro q hq
    split at hq
    · rename_i hk
      simp at hq
      rcases hq with rfl | rfl
      · have := h3 (by omega); exact ⟨this.1, this.2, .inl ⟨hk, .inl rfl⟩⟩
      · have := h4 hk; exact ⟨this.1, this.2, .inl ⟨hk, .inr rfl⟩⟩
    · split at hq
      · rename_i hk
        split at hq
        · rename_i hs; simp at hq; subst hq; have := h3 (by omega); exact ⟨this.1, this.2, .inr (.inl ⟨hk, hs, rfl⟩)⟩
        · simp at hq
      · split at hq
        · rename_i hk
          split at hq
          · rename_i hs; simp at hq; subst hq; have := h3 (by omega); exact ⟨this.1, this.2, .inr (.inr ⟨hk, hs, rfl⟩)⟩
          · simp at hq
        · simp at hq
  · rintro j (⟨hk, rfl | rfl⟩ | ⟨hk, hs, rfl⟩ | ⟨hk, hs, rfl⟩)
    · have := h3 (by omega); simp [hk]; omega
    · have := h4 hk; simp [hk]; omega
    · have := h3 (by omega); simp [hk, hs]; omega
    · have := h3 (by omega); simp [hk, hs]; omega

def Sp_Steps (P : Program) : Prop := ∀ x : State × (Bool × Bool), Fn P "mergelens/automaton.Steps" S_automaton_Steps x fun (d : List Int) _ => d = stepsF x.1 x.2.1 x.2.2
theorem sp_Steps (h : Has P F_automaton_Steps) : Sp_Steps P := by
  rintro ⟨⟨k, set, nx, ot⟩, st, en⟩
  refine fn_automaton_Steps h ?_
  unfold W_automaton_Steps stepsF
  dsimp only
  refine JoinW.of ⟨fun h1 => ?_, fun h1 => JoinW.of ⟨fun h2 => ⟨fun h3 => ?_, fun h3 => ?_⟩, fun h2 => JoinW.of ⟨fun h3 => ⟨fun h4 => ?_, fun h4 => ?_⟩, fun h3 => ?_⟩⟩⟩ <;> simp_all

theorem pop {l : List Int} (h : ((List.length l : Nat) : Int) > 0) : ∃ m x, l = m ++ [x] := by
  rcases List.eq_nil_or_concat l with rfl | ⟨m, x, rfl⟩
  · simp at h
  · exact ⟨m, x, by simp⟩

def stOf (m : search_machine) : Bool := m.2.2.1 == 0
def enOf (m : search_machine) : Bool := m.2.2.1 == ((List.length m.2.1 : Nat) : Int)
/-- What is seen is closed. -/
def Closed (A : List State) (st en : Bool) (seen : List Bool) : Prop := ∀ q, seen.getD q false = true → ∀ q', epsR A st en q q' → seen.getD q' false = true

theorem set_count {l : List Bool} {i : Nat} (h : i < l.length) (hf : l.getD i false = false) : (l.set i true).count false + 1 = l.count false ∧ (l.set i true).count true = l.count true + 1 := by
  refine ⟨count_set_true h hf, ?_⟩
  rw [getD_eq h] at hf
  rw [List.count_set h, hf]
  simp

structure Added (x : search_machine × (Int × Int)) (m : search_machine) (N : List Int) : Prop where
  a : m.1 = x.1.1
  s : m.2.1 = x.1.2.1
  at_ : m.2.2.1 = x.1.2.2.1
  th : m.2.2.2.1 = x.1.2.2.2.1 ++ N.map fun q => (q, x.2.2)
  nod : N.Nodup
  mem : ∀ q : Int, q ∈ N ↔ 0 ≤ q ∧ x.1.2.2.2.2.getD q.toNat false = false ∧ Rch x.1.1.1 (stOf x.1) (enOf x.1) x.2.1.toNat q.toNat
  len : m.2.2.2.2.length = x.1.2.2.2.2.length
  seen : ∀ q, m.2.2.2.2.getD q false = true ↔ x.1.2.2.2.2.getD q false = true ∨ Rch x.1.1.1 (stOf x.1) (enOf x.1) x.2.1.toNat q
  cnt : m.2.2.2.1.length = m.2.2.2.2.count true

def Sp_Add (P : Program) : Prop := ∀ x : search_machine × (Int × Int), Valid x.1.1 → x.1.2.2.2.2.length = x.1.1.1.length → x.1.2.2.2.1.length = x.1.2.2.2.2.count true → 0 ≤ x.2.1 → x.2.1 < x.1.1.1.length → Closed x.1.1.1 (stOf x.1) (enOf x.1) x.1.2.2.2.2 →
  Fn P "(*mergelens/search.machine).add" S_search_machine_add x fun _ (m : search_machine) => ∃ N, Added x m N

theorem sp_Add (h : Has P F_search_machine_add) (hS : Sp_Steps P) : Sp_Add P := by
  rintro ⟨⟨a, s, at_, T, seen⟩, q0, fr⟩ hv hsl hcnt hq0 hq1 hcl
  dsimp only at hv hsl hcnt hq0 hq1 hcl ⊢
  refine fn_search_machine_add h ?_
  unfold W_search_machine_add
  dsimp only
  have hn := hv.hi
  let M : search_machine := (a, (s, (at_, (T, seen))))
  generalize hst : stOf (a, (s, (at_, (T, seen)))) = st at hcl
  generalize hen : enOf (a, (s, (at_, (T, seen)))) = en at hcl
  have hcs : ∀ l : List Bool, l.count true ≤ l.length := fun l => List.count_le_length
  refine JoinW.mid (fun m => ∃ N, Added ((a, (s, (at_, (T, seen)))), (q0, fr)) m N) ?_ fun m hm => hm
  refine LoopW.of (fun d => d.2.1 = a ∧ d.2.2.1 = s ∧ d.2.2.2.1 = at_ ∧ d.2.2.2.2.2.length = a.1.length ∧ d.2.2.2.2.1.length = d.2.2.2.2.2.count true ∧
      (∃ N : List Int, d.2.2.2.2.1 = T ++ N.map (fun q => (q, fr)) ∧ N.Nodup ∧ ∀ q : Int, q ∈ N ↔ 0 ≤ q ∧ seen.getD q.toNat false = false ∧ d.2.2.2.2.2.getD q.toNat false = true) ∧
      (∀ q, seen.getD q false = true → d.2.2.2.2.2.getD q false = true) ∧ (∀ q, d.2.2.2.2.2.getD q false = true → seen.getD q false = true ∨ Rch a.1 st en q0.toNat q) ∧
      (∀ q ∈ d.1, 0 ≤ q ∧ q < (a.1.length : Int) ∧ Rch a.1 st en q0.toNat q.toNat) ∧ (∀ q, d.2.2.2.2.2.getD q false = true → ∀ q', epsR a.1 st en q q' → d.2.2.2.2.2.getD q' false = true ∨ (q' : Int) ∈ d.1) ∧
      (d.2.2.2.2.2.getD q0.toNat false = true ∨ q0 ∈ d.1) ∧ d.1.length + 2 * d.2.2.2.2.2.count false ≤ 2 * a.1.length + 1) (fun d => d.1.length + 2 * d.2.2.2.2.2.count false) ?_ ?_
  · refine ⟨rfl, rfl, rfl, hsl, hcnt, ⟨[], by simp, List.nodup_nil, fun q => ?_⟩, fun q h => h, fun q h => .inl h, fun q hq => ?_, fun q hq q' he => .inl (hcl q hq q' he), .inr (by simp), ?_⟩
    · dsimp only
      constructor
      · intro h; cases h
      · rintro ⟨_, h1, h2⟩; rw [h1] at h2; cases h2
    · simp at hq
      subst hq
      exact ⟨hq0, hq1, .refl _⟩
    · have : seen.count false ≤ seen.length := List.count_le_length
      simp; omega
  · rintro ⟨op, a', s', at', T', sn⟩ ⟨ea, es, eat, l1, c1, ⟨N, eT, nN, mN⟩, g1, g2, g3, g4, g5, g6⟩
    dsimp only at ea es eat l1 c1 eT mN g1 g2 g3 g4 g5 g6 ⊢
    obtain rfl := ea.symm
    obtain rfl := es.symm
    obtain rfl := eat.symm
    subst eT
    refine ⟨fun hop => JoinW.of ?_, fun hop => ?_⟩
    · have hop := of_decide_eq_true hop
      obtain ⟨op, x, rfl⟩ := pop hop
      have e1 : IntKind.i64.wrap (((List.length (op ++ [x]) : Nat) : Int) - 1) = op.length := by
        rw [w64 (by omega) (by omega)]; simp
      have e2 : (Int.toNat ((op.length : Nat) : Int)) = op.length := by omega
      have e3 : List.getD (op ++ [x]) op.length 0 = x := getD_append_at
      have e4 : List.take op.length (List.drop 0 (op ++ [x])) = op := by simp
      rw [e1, e2, e3, e4]
      obtain ⟨x0, x1, x2⟩ := g3 x (by simp)
      refine ⟨⟨by omega, by simp; omega⟩, by simp, ⟨by omega, by simp; omega⟩, by simp, ⟨x0, by omega⟩, by omega, fun hb => ?_, fun hb => ?_⟩
      · refine ⟨⟨rfl, rfl, rfl, l1, c1, ⟨N, rfl, nN, mN⟩, g1, g2, fun q hq => g3 q (by simp [hq]), fun q hq q' he => ?_, ?_, ?_⟩, by simp⟩
        · rcases g4 q hq q' he with h | h
          · exact .inl h
          · rcases List.mem_append.1 h with h | h
            · exact .inr h
            · simp at h
              left
              rw [← h] at hb
              simpa using hb
        · rcases g5 with h | h
          · exact .inl h
          · rcases List.mem_append.1 h with h | h
            · exact .inr h
            · simp at h; subst h; exact .inl hb
        · simp at g6 ⊢; omega
      · have hxn : x.toNat < sn.length := by omega
        obtain ⟨k1, k2⟩ := set_count hxn hb
        have hns : seen.getD x.toNat false = false := by
          cases hh : seen.getD x.toNat false with
          | false => rfl
          | true => rw [g1 _ hh] at hb; cases hb
        have hxN : x ∉ N := fun hh => by have := ((mN x).1 hh).2.2; rw [hb] at this; cases this
        have hTl : (T ++ N.map fun q => (q, fr)).length ≤ a.1.length := by rw [c1]; have := hcs sn; omega
        refine ⟨⟨x0, by omega⟩, by omega, ?_⟩
        refine JoinW.mid (fun m => m = (a, (s, (at_, (T ++ N.map (fun q => (q, fr)) ++ [(x, fr)], sn.set x.toNat true))))) ?_ ?_
        · simp only [and_true, and_self]
          simp only [List.length_cons, List.length_nil]
          omega
        · rintro m rfl
          dsimp only
          refine JoinW.mid (fun o => o = op ++ stepsF (a.1.getD x.toNat zState) st en) ?_ ?_
          · refine ⟨⟨x0, x1⟩, by omega, ?_, trivial⟩
            refine (hS (a.1.getD x.toNat zState, (at_ == 0, at_ == ((List.length s : Nat) : Int)))).to ?_
            rintro (d : List Int) _ hd
            have hd : d = stepsF (a.1.getD x.toNat zState) st en := by rw [hd, ← hst, ← hen]; rfl
            subst hd
            have := stepsF_len (a.1.getD x.toNat zState) st en
            refine ⟨⟨?_, rfl, trivial⟩, trivial⟩
            simp at g6; omega
          · rintro o rfl
            obtain ⟨p1, p2⟩ := stepsF_eps hv.okl (show x.toNat < a.1.length by omega) st en
            have hsl2 := stepsF_len (a.1.getD x.toNat zState) st en
            generalize stepsF (a.1.getD x.toNat zState) st en = S at p1 p2 hsl2
            refine ⟨⟨rfl, rfl, rfl, by simpa using l1, ?_, ⟨N ++ [x], by simp, ?_, fun q => ?_⟩, fun q hq => ?_, fun q hq => ?_, fun q hq => ?_, fun q hq q' he => ?_, ?_, ?_⟩, ?_⟩
            · simp only [List.length_append, List.length_cons, List.length_nil] at c1 ⊢
              rw [k2]; omega
            · exact List.nodup_append.2 ⟨nN, by simp, by rintro y hy z hz rfl; simp at hz; subst hz; exact hxN hy⟩
            · rw [List.mem_append, mN, getD_set hxn]
              constructor
              · rintro (⟨h1, h2, h3⟩ | h)
                · refine ⟨h1, h2, ?_⟩
                  split
                  · rfl
                  · exact h3
                · simp at h; subst h; exact ⟨x0, hns, by simp⟩
              · rintro ⟨h1, h2, h3⟩
                split at h3
                · rename_i e; right; simp; omega
                · exact .inl ⟨h1, h2, h3⟩
            · rw [getD_set hxn]
              split
              · rfl
              · exact g1 q hq
            · rw [getD_set hxn] at hq
              split at hq
              · rename_i e; subst e; exact .inr x2
              · exact g2 q hq
            · rcases List.mem_append.1 hq with hq | hq
              · exact g3 q (by simp [hq])
              · obtain ⟨h1, h2, h3⟩ := p1 q hq
                exact ⟨h1, h2, x2.tail h3⟩
            · rw [getD_set hxn] at hq ⊢
              split at hq
              · rename_i e
                subst e
                exact .inr (List.mem_append.2 (.inr (p2 q' he)))
              · rcases g4 q hq q' he with h | h
                · left
                  split
                  · rfl
                  · exact h
                · rcases List.mem_append.1 h with h | h
                  · exact .inr (List.mem_append.2 (.inl h))
                  · simp at h
                    left
                    rw [if_pos (by omega)]
            · rw [getD_set hxn]
              rcases g5 with h | h
              · left
                split
                · rfl
                · exact h
              · rcases List.mem_append.1 h with h | h
                · exact .inr (List.mem_append.2 (.inl h))
                · simp at h; left; rw [if_pos (by omega)]
            · simp at g6 ⊢; omega
            · simp at g6 ⊢; omega
    · have hop := of_decide_eq_false hop
      have : op = [] := by
        cases op with
        | nil => rfl
        | cons => simp at hop
      subst this
      have hclo : ∀ q, sn.getD q false = true → ∀ q', Rch a.1 st en q q' → sn.getD q' false = true := by
        intro q hq q' hr
        induction hr with
        | refl => exact hq
        | tail _ e ih => exact (g4 _ ih _ e).elim id fun h => by cases h
      have h0 : sn.getD q0.toNat false = true := g5.elim id fun h => by cases h
      refine ⟨N, ⟨rfl, rfl, rfl, rfl, nN, fun q => ?_, by dsimp only; omega, fun q => ?_, c1⟩⟩
      · rw [mN]
        dsimp only
        rw [hst, hen]
        constructor
        · rintro ⟨h1, h2, h3⟩
          exact ⟨h1, h2, (g2 _ h3).elim (fun h => by rw [h2] at h; cases h) id⟩
        · rintro ⟨h1, h2, h3⟩
          exact ⟨h1, h2, hclo _ h0 _ h3⟩
      · dsimp only
        rw [hst, hen]
        exact ⟨g2 q, fun h => h.elim (g1 q) (hclo _ h0 q)⟩
end Go.VS
