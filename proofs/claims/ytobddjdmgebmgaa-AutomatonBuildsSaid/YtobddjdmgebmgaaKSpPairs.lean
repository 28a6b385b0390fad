/- The document's tables of a language. -/
import Derived.Test.YtobddjdmgebmgaaKSpBuild
set_option linter.unusedVariables false
set_option linter.unusedSimpArgs false
namespace Go.VS
variable {P : Program}
structure TabOf (T : List (List Bool)) (n : Nat) (R : Nat → Nat → Prop) : Prop where
 len : T.length = n
 row : ∀ i, i < n → (T.getD i []).length = n
 at_ : ∀ i j, i < n → j < n → ((T.getD i []).getD j false = true ↔ R i j)
theorem TabOf.congr {T : List (List Bool)} {n : Nat} {R S : Nat → Nat → Prop} (h : TabOf T n R) (e : ∀ i j, i < n → j < n → (R i j ↔ S i j)) : TabOf T n S :=
 ⟨h.len, h.row, fun i j hi hj => (h.at_ i j hi hj).trans (e i j hi hj)⟩
structure RowsOf (T : List (List Bool)) (k n : Nat) (R : Nat → Nat → Prop) : Prop where
 len : T.length = k
 row : ∀ i, i < k → (T.getD i []).length = n
 at_ : ∀ i j, i < k → j < n → ((T.getD i []).getD j false = true ↔ R i j)
theorem RowsOf.snoc {T : List (List Bool)} {k n : Nat} {R : Nat → Nat → Prop} (h : RowsOf T k n R) {r : List Bool} (hl : r.length = n) (hr : ∀ j, j < n → (r.getD j false = true ↔ R k j)) : RowsOf (T ++ [r]) (k + 1) n R := by
 have hat : (T ++ [r]).getD k [] = r := by have := @getD_append_at _ T r []; rwa [h.len] at this
 refine ⟨by simp [h.len], fun i hi => ?_, fun i j hi hj => ?_⟩
 ·rcases Nat.lt_or_ge i k with hlt | hge
  ·rw [getD_append_left (by rw [h.len]; exact hlt)]; exact h.row i hlt
  ·have : i = k := by omega
   subst this; rw [hat]; exact hl
 ·rcases Nat.lt_or_ge i k with hlt | hge
  ·rw [getD_append_left (by rw [h.len]; exact hlt)]; exact h.at_ i j hlt hj
  ·have : i = k := by omega
   subst this; rw [hat]; exact hr j hj
theorem RowsOf.tab {T : List (List Bool)} {n : Nat} {R : Nat → Nat → Prop} (h : RowsOf T n n R) : TabOf T n R := ⟨h.len, h.row, h.at_⟩
theorem RowsOf.nil {n : Nat} {R : Nat → Nat → Prop} : RowsOf [] 0 n R := ⟨rfl, fun i hi => by omega, fun i j hi => by omega⟩
def Sp_empty (P : Program) : Prop := ∀ x : List UInt8 × Bool, x.1.length ≤ 1000000 → Fn P "mergelens/mergelensref05.empty" S_ref05_empty x fun (d : List (List Bool)) _ => TabOf d (x.1.length + 1) fun i j => i = j ∧ x.2 = true
theorem sp_empty (h : Has P F_ref05_empty) : Sp_empty P := by
 rintro ⟨s, b⟩ hl
 dsimp only at hl ⊢
 refine fn_ref05_empty h ?_
 unfold W_ref05_empty
 dsimp only
 rw [w64 (n := (s.length : Int) + 1) (by omega) (by omega), show ((s.length : Int) + 1).toNat = s.length + 1 by omega]
 refine JoinW.mid (fun d => TabOf d (s.length + 1) fun i j => i = j ∧ b = true) ?_ fun d hd => hd
 refine LoopW.of (fun d => 0 ≤ d.2 ∧ d.2 ≤ (s.length : Int) + 1 ∧ RowsOf d.1 d.2.toNat (s.length + 1) fun i j => i = j ∧ b = true) (fun d => (s.length + 1 - d.2).toNat) ⟨Int.le_refl _, by dsimp only; omega, .nil⟩ ?_
 rintro ⟨T, i⟩ ⟨i0, i1, hT⟩
 dsimp only at i0 i1 hT ⊢
 refine ⟨fun hc => JoinW.of ?_, fun hc => ?_⟩
 ·have hc := of_decide_eq_true hc
  have hTl := hT.len
  rw [w64 (by omega) (by omega)]
  refine ⟨⟨by omega, by omega, by omega⟩, ⟨i0, by simp; omega⟩, by simp; omega, by simp only [List.length_cons, List.length_nil]; omega, ⟨by omega, by omega, ?_⟩, by omega⟩
  rw [show (i + 1).toNat = i.toNat + 1 by omega]
  refine hT.snoc (by simp) fun j hj => ?_
  rw [getD_set (by simp; omega)]
  split
  ·rename_i e; simp [e]
  ·rename_i e; rw [getD_replicate hj]; simp [e]
 ·have hc := of_decide_eq_false hc
  have : i = (s.length : Int) + 1 := by omega
  subst this
  rw [show ((s.length : Int) + 1).toNat = s.length + 1 by omega] at hT
  exact hT.tab
def Sp_union (P : Program) : Prop := ∀ (a b : List (List Bool)) (n : Nat) (R S : Nat → Nat → Prop), n ≤ 1000001 → TabOf a n R → TabOf b n S → Fn P "mergelens/mergelensref05.union" S_ref05_union (a, b) fun (d : List (List Bool)) _ => TabOf d n fun i j => R i j ∨ S i j
theorem sp_union (h : Has P F_ref05_union) : Sp_union P := by
 intro a b n R S hn ha hb
 refine fn_ref05_union h ?_
 unfold W_ref05_union
 dsimp only
 have hal := ha.len; have hbl := hb.len
 rw [hal, hbl]
 refine JoinW.mid (fun d => TabOf d n fun i j => R i j ∨ S i j) ?_ fun d hd => hd
 refine LoopW.of (fun d => 0 ≤ d.2 ∧ d.2 ≤ (n : Int) ∧ RowsOf d.1 d.2.toNat n fun i j => R i j ∨ S i j) (fun d => (n - d.2).toNat) ⟨Int.le_refl _, by dsimp only; omega, .nil⟩ ?_
 rintro ⟨T, i⟩ ⟨i0, i1, hT⟩
 dsimp only at i0 i1 hT ⊢
 refine ⟨fun hc => JoinW.of ?_, fun hc => ?_⟩
 ·have hc := of_decide_eq_true hc
  have hTl := hT.len
  have hiN : i.toNat < n := by omega
  have hra := ha.row _ hiN; have hrb := hb.row _ hiN
  rw [hra, hrb]
  refine ⟨⟨by omega, by omega, by omega⟩, ?_⟩
  refine JoinW.mid (fun r => r.length = n ∧ ∀ j, j < n → (r.getD j false = true ↔ R i.toNat j ∨ S i.toNat j)) ?_ ?_
  ·refine LoopW.of (fun d => 0 ≤ d.2 ∧ d.2 ≤ (n : Int) ∧ d.1.length = n ∧ ∀ j : Nat, (j : Int) < d.2 → (d.1.getD j false = true ↔ R i.toNat j ∨ S i.toNat j)) (fun d => (n - d.2).toNat) ⟨Int.le_refl _, by dsimp only; omega, by simp, fun j hj => by dsimp only at hj; omega⟩ ?_
   rintro ⟨r, j⟩ ⟨j0, j1, jl, hj⟩
   dsimp only at j0 j1 jl hj ⊢
   refine ⟨fun hc2 => JoinW.of ?_, fun hc2 => ?_⟩
   ·have hc2 := of_decide_eq_true hc2
    rw [w64 (by omega) (by omega)]
    refine ⟨⟨i0, hc⟩, hiN, ⟨j0, hc2⟩, by omega, fun _ => ⟨i0, hc⟩, fun _ => hiN, fun _ => ⟨j0, hc2⟩, fun _ => by omega, ⟨j0, by omega⟩, by omega, ⟨by omega, by omega, by simpa using jl, fun j' hj' => ?_⟩, by omega⟩
    rw [getD_set (by omega)]
    split
    ·rename_i e
     subst e
     have h1 := ha.at_ i.toNat j.toNat hiN (by omega)
     have h2 := hb.at_ i.toNat j.toNat hiN (by omega)
     rw [← h1, ← h2]
     cases (a.getD i.toNat []).getD j.toNat false <;> simp
    ·exact hj j' (by omega)
   ·have hc2 := of_decide_eq_false hc2
    exact ⟨jl, fun j' hj' => hj j' (by omega)⟩
  ·rintro r ⟨r1, r2⟩
   rw [w64 (by omega) (by omega)]
   refine ⟨by simp only [List.length_cons, List.length_nil]; omega, ⟨by omega, by omega, ?_⟩, by omega⟩
   rw [show (i + 1).toNat = i.toNat + 1 by omega]
   exact hT.snoc r1 r2
 ·have hc := of_decide_eq_false hc
  have : i = (n : Int) := by omega
  subst this
  exact hT.tab
def Sp_compose (P : Program) : Prop := ∀ (a b : List (List Bool)) (n : Nat) (R S : Nat → Nat → Prop), n ≤ 1000001 → TabOf a n R → TabOf b n S → Fn P "mergelens/mergelensref05.compose" S_ref05_compose (a, b) fun (d : List (List Bool)) _ => TabOf d n fun i j => ∃ k, i ≤ k ∧ k ≤ j ∧ R i k ∧ S k j
theorem sp_compose (h : Has P F_ref05_compose) : Sp_compose P := by
 intro a b n R S hn ha hb
 refine fn_ref05_compose h ?_
 unfold W_ref05_compose
 dsimp only
 have hal := ha.len; have hbl := hb.len
 rw [hal, hbl]
 refine JoinW.mid (fun d => TabOf d n fun i j => ∃ k, i ≤ k ∧ k ≤ j ∧ R i k ∧ S k j) ?_ fun d hd => hd
 refine LoopW.of (fun d => 0 ≤ d.2 ∧ d.2 ≤ (n : Int) ∧ RowsOf d.1 d.2.toNat n fun i j => ∃ k, i ≤ k ∧ k ≤ j ∧ R i k ∧ S k j) (fun d => (n - d.2).toNat) ⟨Int.le_refl _, by dsimp only; omega, .nil⟩ ?_
 rintro ⟨T, i⟩ ⟨i0, i1, hT⟩
 dsimp only at i0 i1 hT ⊢
 refine ⟨fun hc => JoinW.of ?_, fun hc => ?_⟩
 ·have hc := of_decide_eq_true hc
  have hTl := hT.len
  have hiN : i.toNat < n := by omega
  have hra := ha.row _ hiN
  rw [hra]
  refine ⟨⟨by omega, by omega, by omega⟩, ?_⟩
  refine JoinW.mid (fun r => r.length = n ∧ ∀ j, j < n → (r.getD j false = true ↔ ∃ k, i.toNat ≤ k ∧ k ≤ j ∧ R i.toNat k ∧ S k j)) ?_ ?_
  ·refine LoopW.of (fun d => i ≤ d.2 ∧ d.2 ≤ (n : Int) ∧ d.1.length = n ∧ ∀ j : Nat, j < n → (d.1.getD j false = true ↔ ∃ k : Nat, (k : Int) < d.2 ∧ i.toNat ≤ k ∧ k ≤ j ∧ R i.toNat k ∧ S k j)) (fun d => (n - d.2).toNat) ⟨Int.le_refl _, by dsimp only; omega, by simp, fun j hj => ?_⟩ ?_
   ·dsimp only
    rw [getD_replicate (by omega)]
    constructor
    ·intro h; cases h
    ·rintro ⟨k, k1, k2, _⟩; omega
   rintro ⟨r, k⟩ ⟨k0, k1, kl, hk⟩
   dsimp only at k0 k1 kl hk ⊢
   refine ⟨fun hc2 => JoinW.of ?_, fun hc2 => ?_⟩
   ·have hc2 := of_decide_eq_true hc2
    have hkN : k.toNat < n := by omega
    have hrb := hb.row _ hkN
    rw [hrb]
    have hRk := ha.at_ i.toNat k.toNat hiN hkN
    refine JoinW.mid (fun r2 => r2.length = n ∧ ∀ j, j < n → (r2.getD j false = true ↔ (r.getD j false = true ∨ (k.toNat ≤ j ∧ R i.toNat k.toNat ∧ S k.toNat j)))) ?_ ?_
    ·refine LoopW.of (fun d => k ≤ d.2 ∧ d.2 ≤ (n : Int) ∧ d.1.length = n ∧ ∀ j : Nat, j < n → (d.1.getD j false = true ↔ (r.getD j false = true ∨ (k.toNat ≤ j ∧ (j : Int) < d.2 ∧ R i.toNat k.toNat ∧ S k.toNat j)))) (fun d => (n - d.2).toNat) ⟨Int.le_refl _, by dsimp only; omega, kl, fun j hj => ?_⟩ ?_
     ·dsimp only
      constructor
      ·exact .inl
      ·rintro (h | ⟨h1, h2, _⟩)
       ·exact h
       ·omega
     rintro ⟨r2, j⟩ ⟨j0, j1, jl, hj⟩
     dsimp only at j0 j1 jl hj ⊢
     refine ⟨fun _ => ⟨i0, hc⟩, fun _ => hiN, fun _ => ⟨by omega, hc2⟩, fun _ => hkN, fun hc3 => JoinW.of ?_, fun hc3 => ?_⟩
     ·simp [-List.getD_eq_getElem?_getD] at hc3
      obtain ⟨c1, c2⟩ := hc3
      rw [w64 (by omega) (by omega)]
      refine ⟨⟨by omega, by omega⟩, by omega, fun _ => ⟨by omega, hc2⟩, fun _ => hkN, fun _ => ⟨by omega, by omega⟩, fun _ => by omega, ⟨by omega, by omega⟩, by omega, ⟨by omega, by omega, by simpa using jl, fun j' hj' => ?_⟩, by omega⟩
      rw [getD_set (by omega)]
      split
      ·rename_i e
       subst e
       have h1 := hj j.toNat hj'
       have h2 := hb.at_ k.toNat j.toNat hkN hj'
       rw [Bool.cond_eq_ite]
       have h3 : ¬ (((j.toNat : Nat) : Int) < j) := by omega
       have h4 : (((j.toNat : Nat) : Int) < j + 1) := by omega
       simp only [h3, false_and, and_false, or_false] at h1
       simp only [h4, true_and]
       split
       ·rename_i e2
        exact ⟨fun _ => .inl (h1.1 e2), fun _ => rfl⟩
       ·rename_i e2
        rw [h2]
        constructor
        ·intro hS; exact .inr ⟨by omega, hRk.1 c2, hS⟩
        ·rintro (h | ⟨_, _, h⟩)
         ·exact absurd (h1.2 h) e2
         ·exact h
      ·rename_i e
       rw [hj j' hj']
       constructor
       ·rintro (h | ⟨a1, a2, a3⟩)
        ·exact .inl h
        ·exact .inr ⟨a1, by omega, a3⟩
       ·rintro (h | ⟨a1, a2, a3⟩)
        ·exact .inl h
        ·exact .inr ⟨a1, by omega, a3⟩
     ·simp [-List.getD_eq_getElem?_getD] at hc3
      refine ⟨jl, fun j' hj' => (hj j' hj').trans ?_⟩
      constructor
      ·rintro (h | ⟨a1, a2, a3⟩)
       ·exact .inl h
       ·exact .inr ⟨a1, a3⟩
      ·rintro (h | ⟨a1, a2, a3⟩)
       ·exact .inl h
       ·refine .inr ⟨a1, ?_, a2, a3⟩
        rcases Int.lt_or_le j n with h | h
        ·have h5 := hc3 h
         have h6 := hRk.2 a2
         rw [h5] at h6; cases h6
        ·omega
    ·rintro r2 ⟨l2, h2⟩
     rw [w64 (by omega) (by omega)]
     refine ⟨⟨by omega, by omega, l2, fun j hj => ?_⟩, by omega⟩
     rw [h2 j hj, hk j hj]
     constructor
     ·rintro (⟨k', a1, a2, a3⟩ | ⟨a1, a2, a3⟩)
      ·exact ⟨k', by omega, a2, a3⟩
      ·exact ⟨k.toNat, by omega, by omega, a1, a2, a3⟩
     ·rintro ⟨k', a1, a2, a3, a4⟩
      by_cases e : k' = k.toNat
      ·subst e; exact .inr ⟨a3, a4⟩
      ·exact .inl ⟨k', by omega, a2, a3, a4⟩
   ·have hc2 := of_decide_eq_false hc2
    refine ⟨kl, fun j hj => (hk j hj).trans ?_⟩
    constructor
    ·rintro ⟨k', _, a⟩; exact ⟨k', a⟩
    ·rintro ⟨k', a1, a2, a3⟩; exact ⟨k', by omega, a1, a2, a3⟩
  ·rintro r ⟨r1, r2⟩
   rw [w64 (by omega) (by omega)]
   refine ⟨by simp only [List.length_cons, List.length_nil]; omega, ⟨by omega, by omega, ?_⟩, by omega⟩
   rw [show (i + 1).toNat = i.toNat + 1 by omega]
   exact hT.snoc r1 r2
 ·have hc := of_decide_eq_false hc
  have : i = (n : Int) := by omega
  subst this
  exact hT.tab
def OrdR (R : RelT) : Prop := ∀ s i j, R s i j → i ≤ j ∧ (i ≤ s.length → j ≤ s.length)
theorem OrdR.id : OrdR idR := fun s i j h => by cases h; exact ⟨Nat.le_refl _, fun h => h⟩
theorem OrdR.comp {R S : RelT} (h1 : OrdR R) (h2 : OrdR S) : OrdR (compR R S) := by
 rintro s i j ⟨m, a, b⟩
 have := h1 _ _ _ a; have := h2 _ _ _ b
 exact ⟨by omega, fun h => by omega⟩
theorem OrdR.pow {R : RelT} (h : OrdR R) (n : Nat) : OrdR (powR R n) := by
 induction n with
 | zero => exact .id
 | succ n ih => exact h.comp ih
theorem OrdR.seq {R : Nat → RelT} {l : List Int} (h : ∀ k ∈ l, OrdR (R k.toNat)) : OrdR (seqL R l) := by
 induction l with
 | nil => exact .id
 | cons k l ih => exact (h k (by simp)).comp (ih fun k' hk' => h k' (by simp [hk']))
theorem OrdR.alt {R : Nat → RelT} {l : List Int} (h : ∀ k ∈ l, OrdR (R k.toNat)) : OrdR (altL R l) := by
 induction l with
 | nil => intro s i j h; exact h.elim
 | cons k l ih =>
  rintro s i j (ha | ha)
  ·exact h k (by simp) _ _ _ ha
  ·exact ih (fun k' hk' => h k' (by simp [hk'])) _ _ _ ha
theorem OrdR.node {n : Node} {i : Nat} (ho : okNode n i) {R : Nat → RelT} (h : ∀ k, k < i → OrdR (R k)) : OrdR (nodeR n R) := by
 have hm : ∀ k ∈ n.2.2.2.2, OrdR (R k.toNat) := fun k hk => h _ (by have := ho.mem hk; omega)
 unfold nodeR
 split
 ·rintro s i j ⟨h1, _, rfl⟩; exact ⟨by omega, fun _ => by omega⟩
 split
 ·rintro s i j ⟨rfl, rfl⟩; exact ⟨Nat.le_refl _, fun _ => Nat.zero_le _⟩
 split
 ·rintro s i j ⟨rfl, rfl⟩; exact ⟨Nat.le_refl _, fun h => h⟩
 split
 ·exact .seq hm
 split
 ·exact .alt hm
 split
 ·rename_i h6
  have := ho.2.2.2.2.2 h6
  have := ho.1 0 (by omega)
  rintro s i j ⟨r, _, _, hr⟩
  exact (h _ (by omega)).pow r _ _ _ hr
 ·exact .id
theorem OrdR.lang {l : List Node} (v : NValid l) {k : Nat} (h : k < l.length) : OrdR (Lang l k) := by
 induction k using Nat.strongRecOn with
 | ind k ih =>
  rw [lang_at v h]
  exact OrdR.node (v.ok k h) fun m hm => ih m hm (by omega)
theorem powR_red {R : RelT} (h : OrdR R) {s : List UInt8} {r i j : Nat} (hj : j ≤ i + r) (hp : powR R (r + 1) s i j) : powR R r s i j := by
 induction r generalizing i with
 | zero =>
  obtain ⟨m, h1, h2⟩ := hp
  cases h2
  have := h _ _ _ h1
  show i = j
  omega
 | succ r ih =>
  obtain ⟨m, h1, h2⟩ := hp
  have := h _ _ _ h1
  rcases Nat.lt_or_ge i m with hlt | hge
  ·exact ⟨m, h1, ih (by omega) h2⟩
  ·have : i = m := by omega
   subst this; exact h2
theorem powR_short {R : RelT} (h : OrdR R) {s : List UInt8} {n i j : Nat} (hn : j ≤ i + n) : ∀ r, n ≤ r → powR R r s i j → powR R n s i j := by
 intro r
 induction r with
 | zero =>
  intro hr hp; have : n = 0 := by omega
  subst this; exact hp
 | succ r ih =>
  intro hr hp
  rcases Nat.lt_or_ge r n with hlt | hge
  ·have : n = r + 1 := by omega
   subst this; exact hp
  ·exact ih hge (powR_red h (by omega) hp)
theorem powR_last {R : RelT} {r : Nat} {s : List UInt8} {i j : Nat} : powR R (r + 1) s i j ↔ ∃ m, powR R r s i m ∧ R s m j := by
 rw [powR_add]
 constructor
 ·rintro ⟨m, h1, m2, h2, h3⟩; cases h3; exact ⟨m, h1, h2⟩
 ·rintro ⟨m, h1, h2⟩; exact ⟨m, h1, j, h2, rfl⟩
theorem seqL_snoc {R : Nat → RelT} {l : List Int} {k : Int} {s : List UInt8} {i j : Nat} : seqL R (l ++ [k]) s i j ↔ ∃ m, seqL R l s i m ∧ R k.toNat s m j := by
 induction l generalizing i with
 | nil => exact ⟨fun ⟨m, h1, h2⟩ => by cases h2; exact ⟨i, rfl, h1⟩, fun ⟨m, h1, h2⟩ => by cases h1; exact ⟨j, h2, rfl⟩⟩
 | cons q l ih =>
  constructor
  ·rintro ⟨m, h1, h2⟩
   obtain ⟨m2, h3, h4⟩ := ih.1 h2
   exact ⟨m2, ⟨m, h1, h3⟩, h4⟩
  ·rintro ⟨m2, ⟨m, h1, h3⟩, h4⟩
   exact ⟨m, h1, ih.2 ⟨m2, h3, h4⟩⟩
theorem altL_snoc {R : Nat → RelT} {l : List Int} {k : Int} {s : List UInt8} {i j : Nat} : altL R (l ++ [k]) s i j ↔ altL R l s i j ∨ R k.toNat s i j := by
 induction l with
 | nil => simp [altL, uniR, botR]
 | cons q l ih =>
  show uniR (R q.toNat) (altL R (l ++ [k])) s i j ↔ uniR (R q.toNat) (altL R l) s i j ∨ _
  simp only [uniR, ih, or_assoc]
def Tabs (all : List (List (List Bool))) (s : List UInt8) (R : Nat → RelT) : Prop := ∀ k, k < all.length → TabOf (all.getD k []) (s.length + 1) (R k s)
theorem TabOf.set {T : List (List Bool)} {n : Nat} {R : Nat → Nat → Prop} (h : TabOf T n R) {i j : Nat} (hi : i < n) (hj : j < n) (b : Bool) : TabOf (T.set i ((T.getD i []).set j b)) n fun i' j' => if i' = i ∧ j' = j then b = true else R i' j' := by
 have hl := h.len
 have hr := h.row i hi
 refine ⟨by simp [hl], fun i' hi' => ?_, fun i' j' hi' hj' => ?_⟩
 ·rw [getD_set (by omega)]
  split
  ·simpa using hr
  ·exact h.row i' hi'
 ·rw [getD_set (by omega)]
  split
  ·rename_i e
   subst e
   rw [getD_set (by omega)]
   split
   ·rename_i e; subst e; simp
   ·rename_i e
    rw [if_neg (fun h => e h.2.symm)]
    exact h.at_ i j' hi' hj'
  ·rename_i e
   rw [if_neg (fun h => e h.1.symm)]
   exact h.at_ i' j' hi' hj'
theorem kd046 (kd : Int) : (cond (cond (kd == 0) true (kd == 4)) true (kd == 6)) = true ↔ (kd = 0 ∨ kd = 4 ∨ kd = 6) := by
 rw [show (cond (cond (kd == 0) true (kd == 4)) true (kd == 6)) = ((kd == 0) || ((kd == 4) || (kd == 6))) by cases (kd == 0) <;> cases (kd == 4) <;> rfl]
 simp
def Sp_pairs (P : Program) : Prop := ∀ (n : Node) (all : List (List (List Bool))) (s : List UInt8) (R : Nat → RelT), s.length ≤ 1000000 → okNode n all.length → n.2.2.2.2.length ≤ 140737488351232 → (∀ k, k < all.length → OrdR (R k)) → Tabs all s R → Fn P "mergelens/mergelensref05.pairs" S_ref05_pairs (n, (all, s)) fun (d : List (List Bool)) _ => TabOf d (s.length + 1) (nodeR n R s)
theorem sp_pairs (h : Has P F_ref05_pairs) (hE : Sp_empty P) (hC : Sp_compose P) (hU : Sp_union P) (hH : Sp_Has P) : Sp_pairs P := by
 rintro ⟨kd, set, mn, mx, kids⟩ all s R hs ho hkl hord hT
 have ho1 := ho.1
 have ho2 := ho.2.2.2
 have hk0 := ho.2.1; have hk6 := ho.2.2.1
 dsimp only at hkl ho1 ho2 hk0 hk6
 refine fn_ref05_pairs h ?_
 unfold W_ref05_pairs
 dsimp only
 refine (hE (s, _) hs).to ?_
 rintro (d1 : List (List Bool)) _ hd1
 dsimp only at hd1 ⊢
 have hd1 : TabOf d1 (s.length + 1) fun i j => i = j ∧ (kd = 0 ∨ kd = 4 ∨ kd = 6) := hd1.congr fun i j _ _ => and_congr Iff.rfl (kd046 kd)
 have hl1 := hd1.len
 have hcomp : ∀ (T : List (List Bool)) (Q : RelT) (k : Int), OrdR Q → TabOf T (s.length + 1) (Q s) → 0 ≤ k → k < (all.length : Int) → Fn P "mergelens/mergelensref05.compose" S_ref05_compose (T, all.getD k.toNat []) fun (d : List (List Bool)) _ => TabOf d (s.length + 1) (fun i j => ∃ m, Q s i m ∧ R k.toNat s m j) := by
  intro T Q k hQ hTQ k0 k1
  refine (hC T _ (s.length + 1) _ _ (by omega) hTQ (hT k.toNat (by omega))).to ?_
  rintro (d : List (List Bool)) _ hd
  refine hd.congr fun i j _ _ => ?_
  constructor
  ·rintro ⟨m, _, _, a, b⟩; exact ⟨m, a, b⟩
  ·rintro ⟨m, a, b⟩; exact ⟨m, (hQ _ _ _ a).1, (hord _ (by omega) _ _ _ b).1, a, b⟩
 refine JoinW.of (JoinW.mid (fun d => TabOf d (s.length + 1) (nodeR (kd, (set, (mn, (mx, kids)))) R s)) ⟨fun h1 => ?_, fun h1 => JoinW.of ⟨fun h2 => ?_, fun h2 => JoinW.of ⟨fun h3 => ?_, fun h3 => JoinW.of ⟨fun h4 => ?_, fun h4 => JoinW.of ⟨fun h5 => ?_, fun h5 => JoinW.of ⟨fun h6 => ?_, fun h6 => ?_⟩⟩⟩⟩⟩⟩ fun d hd => hd)
 ·have h1 : kd = 1 := by simpa using h1
  subst h1
  refine JoinW.mid (fun d => TabOf d (s.length + 1) (nodeR (1, (set, (mn, (mx, kids)))) R s)) ?_ fun d hd => hd
  have hN : nodeR (1, (set, (mn, (mx, kids)))) R = setR set := rfl
  rw [hN]
  refine LoopW.of (fun d => 0 ≤ d.2 ∧ d.2 ≤ (s.length : Int) ∧ TabOf d.1 (s.length + 1) fun i j => (i : Int) < d.2 ∧ hasF set ((s.getD i 0).toNat : Int) = true ∧ j = i + 1) (fun d => (s.length - d.2).toNat) ⟨Int.le_refl _, by dsimp only; omega, hd1.congr fun i j _ _ => ?_⟩ ?_
  ·dsimp only
   constructor
   ·rintro ⟨_, h⟩; omega
   ·rintro ⟨h, _⟩; omega
  rintro ⟨T, i⟩ ⟨i0, i1, hTi⟩
  dsimp only at i0 i1 hTi ⊢
  have hTl := hTi.len
  refine ⟨fun hc => JoinW.of (JoinW.mid (fun d => TabOf d (s.length + 1) fun i' j => (i' : Int) < i + 1 ∧ hasF set ((s.getD i' 0).toNat : Int) = true ∧ j = i' + 1) ?_ ?_), fun hc => ?_⟩
  ·have hc := of_decide_eq_true hc
   have hr := hTi.row i.toNat (by omega)
   rw [w64 (by omega) (by omega), hr, hTl]
   have hsz : 0 ≤ (((s.getD i.toNat 0).toNat : Nat) : Int) ∧ (((s.getD i.toNat 0).toNat : Nat) : Int) ≤ 255 := by
    have := (s.getD i.toNat 0).toNat_lt; omega
   have key : ∀ b, b = hasF set ((s.getD i.toNat 0).toNat : Int) → TabOf (T.set i.toNat ((T.getD i.toNat []).set (i + 1).toNat b)) (s.length + 1) fun i' j => (i' : Int) < i + 1 ∧ hasF set ((s.getD i' 0).toNat : Int) = true ∧ j = i' + 1 := by
    rintro b rfl
    refine (hTi.set (i := i.toNat) (j := (i + 1).toNat) (by omega) (by omega) _).congr fun i' j' hi' hj' => ?_
    split
    ·rename_i e
     obtain ⟨rfl, rfl⟩ := e
     constructor
     ·intro h; exact ⟨by omega, h, by omega⟩
     ·rintro ⟨_, h, _⟩; exact h
    ·rename_i e
     constructor
     ·rintro ⟨a, b, c⟩; exact ⟨by omega, b, c⟩
     ·rintro ⟨a, b, c⟩
      refine ⟨?_, b, c⟩
      rcases Int.lt_or_le (i' : Int) i with h | h
      ·exact h
      ·exact absurd ⟨by omega, by omega⟩ e
   have g1 : 0 ≤ i ∧ i < ((s.length + 1 : Nat) : Int) := ⟨i0, by omega⟩
   have g2 : 0 ≤ i ∧ i < ((s.length : Nat) : Int) := ⟨i0, hc⟩
   have g3 : i.toNat < s.length + 1 := by omega
   have g4 : 0 ≤ i + 1 ∧ i + 1 < ((s.length + 1 : Nat) : Int) := ⟨by omega, by omega⟩
   have g5 : (i + 1).toNat < s.length + 1 := by omega
   refine ⟨g1, g2, ⟨g3, (hH (set, _) hsz.1 hsz.2).to ?_, trivial⟩, (hH (set, _) hsz.1 hsz.2).to ?_, trivial⟩
   ·rintro (b : Bool) _ hb
    exact ⟨g3, g4, ⟨g3, g5, key b hb⟩, trivial⟩
   ·rintro (b : Bool) _ hb
    exact ⟨g3, g3, g4, ⟨g3, g5, key b hb⟩, trivial⟩
  ·have hc := of_decide_eq_true hc
   intro d hd
   rw [w64 (by omega) (by omega)]
   exact ⟨⟨by omega, by omega, hd⟩, by omega⟩
  ·have hc := of_decide_eq_false hc
   refine hTi.congr fun i' j' _ _ => ?_
   constructor
   ·rintro ⟨a, b, c⟩; exact ⟨by omega, b, c⟩
   ·rintro ⟨a, b, c⟩; exact ⟨by omega, b, c⟩
 ·have h2 : kd = 2 := by simpa using h2
  subst h2
  have hr := hd1.row 0 (by omega)
  refine ⟨⟨by omega, by omega⟩, by simp; omega, by simp; omega, ⟨by omega, by simp only [Int.toNat_zero]; omega⟩, by simp; omega, by simp only [Int.toNat_zero]; omega, ?_⟩
  refine (hd1.set (i := 0) (j := 0) (by omega) (by omega) true).congr fun i j _ _ => ?_
  show _ ↔ stR s i j
  split
  ·rename_i e; exact ⟨fun _ => e, fun _ => rfl⟩
  ·rename_i e
   constructor
   ·rintro ⟨_, h⟩; omega
   ·intro h; exact absurd h e
 ·have h3 : kd = 3 := by simpa using h3
  subst h3
  have hr := hd1.row s.length (by omega)
  have e : ((s.length : Nat) : Int).toNat = s.length := by omega
  rw [e, hr, hl1]
  refine ⟨⟨by omega, by omega⟩, by omega, by omega, ⟨by omega, by omega⟩, by omega, by omega, ?_⟩
  refine (hd1.set (i := s.length) (j := s.length) (by omega) (by omega) true).congr fun i j _ _ => ?_
  show _ ↔ enR s i j
  split
  ·rename_i e; exact ⟨fun _ => e, fun _ => rfl⟩
  ·rename_i e
   constructor
   ·rintro ⟨_, h⟩; omega
   ·intro h; exact absurd h e
 ·have h4 : kd = 4 := by simpa using h4
  subst h4
  have hN : nodeR (4, (set, (mn, (mx, kids)))) R = seqL R kids := rfl
  rw [hN]
  refine JoinW.of <| LoopW.of (fun d => 0 ≤ d.2 ∧ d.2 ≤ (kids.length : Int) ∧ TabOf d.1 (s.length + 1) (seqL R (kids.take d.2.toNat) s)) (fun d => (kids.length - d.2).toNat) ⟨Int.le_refl _, by dsimp only; omega, hd1.congr fun i j _ _ => by simp [seqL, idR]⟩ ?_
  rintro ⟨T, i⟩ ⟨i0, i1, hTi⟩
  dsimp only at i0 i1 hTi ⊢
  refine ⟨fun hc => JoinW.of ?_, fun hc => ?_⟩
  ·have hc := of_decide_eq_true hc
   have hkk := ho1 i.toNat (by omega)
   refine ⟨⟨i0, hc⟩, by omega, hkk, by omega, ?_⟩
   refine (hcomp T (seqL R (kids.take i.toNat)) _ (.seq fun k hk => hord _ ?_) hTi hkk.1 hkk.2).to ?_
   ·have := ho.mem (k := k) (List.mem_of_mem_take hk); omega
   rintro (d : List (List Bool)) _ hd
   rw [w64 (by omega) (by omega)]
   refine ⟨⟨by omega, by omega, hd.congr fun i' j' _ _ => ?_⟩, by omega⟩
   rw [take_succ_getD i0 hc, seqL_snoc]
  ·have hc := of_decide_eq_false hc
   rw [List.take_of_length_le (by omega)] at hTi
   exact hTi
 ·have h5 : kd = 5 := by simpa using h5
  subst h5
  have hN : nodeR (5, (set, (mn, (mx, kids)))) R = altL R kids := rfl
  rw [hN]
  refine JoinW.of <| LoopW.of (fun d => 0 ≤ d.2 ∧ d.2 ≤ (kids.length : Int) ∧ TabOf d.1 (s.length + 1) (altL R (kids.take d.2.toNat) s)) (fun d => (kids.length - d.2).toNat) ⟨Int.le_refl _, by dsimp only; omega, hd1.congr fun i j _ _ => by simp [altL, botR]⟩ ?_
  rintro ⟨T, i⟩ ⟨i0, i1, hTi⟩
  dsimp only at i0 i1 hTi ⊢
  refine ⟨fun hc => JoinW.of ?_, fun hc => ?_⟩
  ·have hc := of_decide_eq_true hc
   have hkk := ho1 i.toNat (by omega)
   refine ⟨⟨i0, hc⟩, by omega, hkk, by omega, ?_⟩
   refine (hU T _ (s.length + 1) _ _ (by omega) hTi (hT (kids.getD i.toNat 0).toNat (by omega))).to ?_
   rintro (d : List (List Bool)) _ hd
   rw [w64 (by omega) (by omega)]
   refine ⟨⟨by omega, by omega, hd.congr fun i' j' _ _ => ?_⟩, by omega⟩
   rw [take_succ_getD i0 hc, altL_snoc]
  ·have hc := of_decide_eq_false hc
   rw [List.take_of_length_le (by omega)] at hTi
   exact hTi
 ·have h6 : kd = 6 := by simpa using h6
  subst h6
  obtain ⟨o1, o2, o3, o4⟩ := ho2.2.2 rfl
  have hkk := ho1 0 (by omega)
  have hN : nodeR (6, (set, (mn, (mx, kids)))) R = repR (R (kids.getD 0 0).toNat) mn mx := rfl
  rw [hN]
  have hOK : OrdR (R (kids.getD 0 0).toNat) := hord _ (by omega)
  have hcomp := fun T Q hQ hTQ => hcomp T Q (kids.getD 0 0) hQ hTQ hkk.1 hkk.2
  simp only [Int.toNat_zero]
  refine ⟨⟨by omega, by omega⟩, by omega, hkk, by omega, ?_⟩
  generalize R (kids.getD 0 0).toNat = Q at hOK hcomp ⊢
  refine JoinW.mid (fun d => TabOf d (s.length + 1) (powR Q mn.toNat s)) ?_ fun T0 hT0 => ?_
  ·refine LoopW.of (fun d => 0 ≤ d.2 ∧ d.2 ≤ mn ∧ TabOf d.1 (s.length + 1) (powR Q d.2.toNat s)) (fun d => (mn - d.2).toNat) ⟨Int.le_refl _, o2, hd1.congr fun i j _ _ => by simp [powR, idR]⟩ ?_
   rintro ⟨T, i⟩ ⟨i0, i1, hTi⟩
   dsimp only at i0 i1 hTi ⊢
   refine ⟨fun hc => JoinW.of ?_, fun hc => ?_⟩
   ·have hc := of_decide_eq_true hc
    refine (hcomp T (powR Q i.toNat) (hOK.pow _) hTi).to ?_
    rintro (d : List (List Bool)) _ hd
    rw [w64 (by omega) (by omega)]
    refine ⟨⟨by omega, by omega, hd.congr fun i' j' _ _ => ?_⟩, by omega⟩
    rw [show (i + 1).toNat = i.toNat + 1 by omega, powR_last]
   ·have hc := of_decide_eq_false hc
    have : i = mn := by omega
    subst this; exact hTi
  ·refine JoinW.mid (fun m => m = if mx < 0 then (s.length : Int) + 1 else mx - mn) ⟨fun hc => ?_, fun hc => ?_⟩ ?_
   ·rw [if_pos (of_decide_eq_true hc), w64 (by omega) (by omega)]
   ·have hc := of_decide_eq_false hc
    rw [if_neg hc, w64 (by omega) (by omega)]
   ·rintro M hM
    have hM0 : 0 ≤ M ∧ M ≤ 1000001 := by
     rw [hM]; split <;> omega
    refine JoinW.mid (fun d => TabOf d (s.length + 1) fun i j => ∃ m : Nat, (m : Int) ≤ M ∧ powR Q (mn.toNat + m) s i j) ?_ fun T hTM => ?_
    ·refine LoopW.of (fun d => 0 ≤ d.2 ∧ d.2 ≤ M ∧ TabOf d.1 (s.length + 1) fun i j => ∃ m : Nat, (m : Int) ≤ d.2 ∧ powR Q (mn.toNat + m) s i j) (fun d => (M - d.2).toNat) ⟨Int.le_refl _, hM0.1, hT0.congr fun i j _ _ => ?_⟩ ?_
     ·constructor
      ·intro h; exact ⟨0, by simp, h⟩
      ·rintro ⟨m, h1, h2⟩
       have : m = 0 := by dsimp only at h1; omega
       subst this; exact h2
     rintro ⟨T, i⟩ ⟨i0, i1, hTi⟩
     dsimp only at i0 i1 hTi ⊢
     refine ⟨fun hc => JoinW.of ?_, fun hc => ?_⟩
     ·have hc := of_decide_eq_true hc
      refine (hcomp T (fun s i' j => ∃ m : Nat, (m : Int) ≤ i ∧ powR Q (mn.toNat + m) s i' j) ?_ hTi).to ?_
      ·rintro s i' j ⟨m, _, h⟩; exact hOK.pow _ _ _ _ h
      rintro (d : List (List Bool)) _ hd
      refine (hU T d (s.length + 1) _ _ (by omega) hTi hd).to ?_
      rintro (d2 : List (List Bool)) _ hd2
      rw [w64 (by omega) (by omega)]
      refine ⟨⟨by omega, by omega, hd2.congr fun i' j' _ _ => ?_⟩, by omega⟩
      constructor
      ·rintro (⟨m, m1, m2⟩ | ⟨q, ⟨m, m1, m2⟩, m3⟩)
       ·exact ⟨m, by omega, m2⟩
       ·exact ⟨m + 1, by omega, powR_last.2 ⟨q, m2, m3⟩⟩
      ·rintro ⟨m, m1, m2⟩
       rcases Nat.eq_zero_or_pos m with e | e
       ·exact .inl ⟨m, by omega, m2⟩
       ·obtain ⟨m', rfl⟩ : ∃ m', m = m' + 1 := ⟨m - 1, by omega⟩
        obtain ⟨q, q1, q2⟩ := powR_last.1 m2
        exact .inr ⟨q, ⟨m', by omega, q1⟩, q2⟩
     ·have hc := of_decide_eq_false hc
      have : i = M := by omega
      subst this; exact hTi
    ·refine hTM.congr fun i j hi hj => ?_
     constructor
     ·rintro ⟨m, m1, m2⟩
      refine ⟨mn.toNat + m, by omega, ?_, m2⟩
      rw [hM] at m1
      split at m1
      ·left; assumption
      ·right; omega
     ·rintro ⟨r, r1, r2, r3⟩
      rw [hM]
      split
      ·rename_i hx
       rcases Nat.lt_or_ge (mn.toNat + s.length + 1) r with hlt | hge
       ·exact ⟨s.length + 1, by omega, powR_short hOK (by omega) r (by omega) r3⟩
       ·exact ⟨r - mn.toNat, by omega, by rwa [show mn.toNat + (r - mn.toNat) = r by omega]⟩
      ·exact ⟨r - mn.toNat, by omega, by rwa [show mn.toNat + (r - mn.toNat) = r by omega]⟩
 ·simp at h1 h2 h3 h4 h5 h6
  have h0 : kd = 0 := by omega
  subst h0
  exact hd1.congr fun i j _ _ => by simp [nodeR, idR]
def Sp_Pairs (P : Program) : Prop := ∀ x : List Node × List UInt8, NValid x.1 → KB x.1 → x.2.length ≤ 1000000 → Fn P "mergelens/mergelensref05.Pairs" S_ref05_Pairs x fun (d : List (List Bool)) _ => TabOf d (x.2.length + 1) (Lang x.1 (x.1.length - 1) x.2)
theorem sp_Pairs (h : Has P F_ref05_Pairs) (hp : Sp_pairs P) : Sp_Pairs P := by
 rintro ⟨l, s⟩ v hK hs
 have hlo := v.lo; have hhi := v.hi
 dsimp only at hlo hhi hK hs v ⊢
 refine fn_ref05_Pairs h ?_
 unfold W_ref05_Pairs
 dsimp only
 refine JoinW.mid (fun d => d.length = l.length ∧ Tabs d s (Lang l)) ?_ ?_
 ·refine LoopW.of (fun d => 0 ≤ d.2 ∧ d.2 ≤ (l.length : Int) ∧ d.1.length = d.2.toNat ∧ Tabs d.1 s (Lang l)) (fun d => (l.length - d.2).toNat) ⟨Int.le_refl _, by dsimp only; omega, rfl, fun k hk => by simp at hk⟩ ?_
  rintro ⟨T, i⟩ ⟨i0, i1, hl, hT⟩
  dsimp only at i0 i1 hl hT ⊢
  refine ⟨fun hc => JoinW.of ?_, fun hc => ?_⟩
  ·have hc := of_decide_eq_true hc
   have ho := v.ok i.toNat (by omega)
   refine ⟨⟨i0, hc⟩, by omega, ?_⟩
   refine (hp (l.getD i.toNat zNode) T s (Lang l) hs (by rw [hl]; exact ho) (hK _) (fun k hk => .lang v (by omega)) hT).to ?_
   rintro (d : List (List Bool)) _ hd
   rw [w64 (by omega) (by omega)]
   refine ⟨by simp only [List.length_cons, List.length_nil]; omega, ⟨by omega, by omega, by simp; omega, fun k hk => ?_⟩, by omega⟩
   rcases Nat.lt_or_ge k T.length with hlt | hge
   ·rw [getD_append_left hlt]; exact hT k hlt
   ·have : k = T.length := by simp at hk; omega
    subst this
    rw [getD_append_at, hl, lang_at v (by omega)]
    exact hd
  ·have hc := of_decide_eq_false hc
   exact ⟨by omega, hT⟩
 ·rintro T ⟨hl, hT⟩
  rw [w64 (by omega) (by omega)]
  refine ⟨⟨by omega, by omega⟩, by omega, ?_⟩
  rw [show (((T.length : Nat) : Int) - 1).toNat = l.length - 1 by omega]
  exact hT _ (by omega)
def Sp_accepts (P : Program) : Prop := ∀ x : List Node × (Auto × List UInt8), NValid x.1 → KB x.1 → x.2.2.length ≤ 1000000 → Valid x.2.1 → (∀ s i j, acc x.2.1 s i j ↔ Lang x.1 (x.1.length - 1) s i j) → Fn P "mergelens/mergelenslaw05.accepts" S_law05_accepts x fun (d : Bool) _ => d = true
theorem sp_accepts (h : Has P F_law05_accepts) (hp : Sp_Pairs P) (hE : Sp_Ends P) : Sp_accepts P := by
 rintro ⟨l, a, s⟩ v hK hs va hac
 dsimp only at v hK hs va hac
 refine fn_law05_accepts h ?_
 unfold W_law05_accepts
 dsimp only
 refine (hp (l, s) v hK hs).to ?_
 rintro (T : List (List Bool)) _ hT
 dsimp only at hT
 have hTl := hT.len
 refine JoinW.mid (fun _ => True) ?_ fun _ _ => rfl
 refine LoopW.of (fun d => 0 ≤ d.2 ∧ d.2 ≤ (s.length : Int) + 1) (fun d => (s.length + 1 - d.2).toNat) ⟨Int.le_refl _, by dsimp only; omega⟩ ?_
 rintro ⟨u, i⟩ ⟨i0, i1⟩
 dsimp only at i0 i1 ⊢
 refine ⟨fun hc => JoinW.of ?_, fun hc => trivial⟩
 have hc := of_decide_eq_true hc
 refine (hE (a, (s, i)) va (by dsimp only; omega) i0 (by dsimp only; omega)).to ?_
 rintro (E : List Bool) _ ⟨hEl, hEa⟩
 dsimp only at hEl hEa
 have hrow := hT.row i.toNat (by omega)
 refine JoinW.mid (fun _ => True) ?_ ?_
 ·refine LoopW.of (fun d => i ≤ d.2 ∧ d.2 ≤ (s.length : Int) + 1) (fun d => (s.length + 1 - d.2).toNat) ⟨Int.le_refl _, by dsimp only; omega⟩ ?_
  rintro ⟨u, j⟩ ⟨j0, j1⟩
  dsimp only at j0 j1 ⊢
  refine ⟨fun hc2 => JoinW.of ?_, fun hc2 => trivial⟩
  have hc2 := of_decide_eq_true hc2
  rw [w64 (by omega) (by omega), hrow]
  refine ⟨⟨by omega, by omega⟩, by omega, ⟨by omega, by omega⟩, by omega, ⟨by omega, by omega⟩, by omega, fun hb => ?_, fun hb => ⟨⟨by omega, by omega⟩, by omega⟩⟩
  exfalso
  have h1 := hEa j.toNat
  have h2 := hT.at_ i.toNat j.toNat (by omega) (by omega)
  rw [hac, ← h2] at h1
  have : E.getD j.toNat false = (T.getD i.toNat []).getD j.toNat false := by
   cases hx : (T.getD i.toNat []).getD j.toNat false
   ·rw [hx] at h1
    cases hy : E.getD j.toNat false
    ·rfl
    ·exact absurd (h1.1 hy) (by simp)
   ·exact h1.2 hx
  rw [this] at hb
  simp at hb
 ·intro u _
  rw [w64 (by omega) (by omega)]
  exact ⟨⟨by omega, by omega⟩, by omega⟩
end Go.VS
