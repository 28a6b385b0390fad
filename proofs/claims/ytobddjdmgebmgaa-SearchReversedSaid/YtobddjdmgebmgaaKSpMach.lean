/- A machine: its threads accepted, kept, read on. -/
import Derived.Test.YtobddjdmgebmgaaKSpAdd
set_option linter.unusedVariables false
set_option linter.unusedSimpArgs false
set_option linter.unusedSectionVars false
namespace Go.VS
variable {P : Program}

def kindOf (A : List State) (q : Int) : Int := (A.getD q.toNat zState).1

def Sp_Start (P : Program) : Prop := ∀ x : Auto × (List UInt8 × Int), x.1.1.length ≤ 8000 → Fn P "mergelens/search.start" S_search_start x fun (m : search_machine) _ => m = (x.1, (x.2.1, (x.2.2, ([], List.replicate x.1.1.length false))))
theorem sp_Start (h : Has P F_search_start) : Sp_Start P := by
  rintro ⟨a, s, at_⟩ hn
  refine fn_search_start h ?_
  unfold W_search_start
  dsimp only at hn ⊢
  have e3 : (Int.toNat ((List.length a.1 : Nat) : Int)) = a.1.length := by omega
  rw [e3]
  refine JoinW.mid (fun m => m = (a, (s, (at_, ([], List.replicate a.1.length false))))) ?_ fun m hm => hm
  simp only [and_true, and_self]
  omega

def Sp_Accepted (P : Program) : Prop := ∀ x : search_machine, (∀ t ∈ x.2.2.2.1, 0 ≤ t.1 ∧ t.1 < (x.1.1.length : Int)) → x.2.2.2.1.length ≤ 8000 →
  Fn P "(*mergelens/search.machine).accepted" S_search_machine_accepted x fun (d : Int) (m : search_machine) => m = x ∧ ((d = -1 ∧ ∀ t ∈ x.2.2.2.1, kindOf x.1.1 t.1 ≠ 4) ∨ ∃ k, k < x.2.2.2.1.length ∧ d = (x.2.2.2.1.getD k ((0 : Int), (0 : Int))).2 ∧ kindOf x.1.1 (x.2.2.2.1.getD k ((0 : Int), (0 : Int))).1 = 4 ∧ ∀ k', k' < k → kindOf x.1.1 (x.2.2.2.1.getD k' ((0 : Int), (0 : Int))).1 ≠ 4)
theorem sp_Accepted (h : Has P F_search_machine_accepted) : Sp_Accepted P := by
  rintro ⟨a, s, at_, T, seen⟩ hT hl
  refine fn_search_machine_accepted h ?_
  unfold W_search_machine_accepted
  dsimp only at hT hl ⊢
  refine JoinW.mid (fun _ => ∀ t ∈ T, kindOf a.1 t.1 ≠ 4) ?_ fun d hd => ⟨rfl, .inl ⟨rfl, hd⟩⟩
  refine LoopW.of (fun d => 0 ≤ d.2 ∧ d.2 ≤ T.length ∧ ∀ k : Nat, (k : Int) < d.2 → kindOf a.1 (T.getD k ((0 : Int), (0 : Int))).1 ≠ 4) (fun d => (T.length - d.2).toNat) ⟨Int.le_refl _, by dsimp only; omega, fun k hk => by dsimp only at hk; omega⟩ ?_
  rintro ⟨u, k⟩ ⟨k0, k1, hk⟩
  dsimp only at k0 k1 hk ⊢
  refine ⟨fun hc => JoinW.of ?_, fun hc => ?_⟩
  · have hc := of_decide_eq_true hc
    have ek : IntKind.i64.wrap (k + 1) = k + 1 := w64 (by omega) (by omega)
    rw [ek]
    have := hT _ (getD_mem (d := ((0 : Int), (0 : Int))) (show k.toNat < T.length by omega))
    refine ⟨⟨k0, hc⟩, by omega, this, by omega, fun hb => ?_, fun hb => ?_⟩
    · refine ⟨rfl, .inr ⟨k.toNat, by omega, rfl, by simpa [kindOf] using hb, fun k' hk' => hk k' (by omega)⟩⟩
    · refine ⟨⟨by omega, by omega, fun k' hk' => ?_⟩, by omega⟩
      by_cases e : k' = k.toNat
      · subst e; simpa [kindOf] using hb
      · exact hk k' (by omega)
  · have hc := of_decide_eq_false hc
    intro t ht
    obtain ⟨k', hk', rfl⟩ := List.getElem_of_mem ht
    have := hk k' (by omega)
    rwa [getD_eq hk'] at this

def Sp_Keep (P : Program) : Prop := ∀ x : search_machine × Int, x.1.2.2.2.1.length ≤ 8000 → x.1.2.2.2.1.Pairwise (fun t u => t.2 ≤ u.2) →
  Fn P "(*mergelens/search.machine).keep" S_search_machine_keep x fun _ (m : search_machine) => m.1 = x.1.1 ∧ m.2.1 = x.1.2.1 ∧ m.2.2.1 = x.1.2.2.1 ∧ m.2.2.2.2 = x.1.2.2.2.2 ∧ m.2.2.2.1.Sublist x.1.2.2.2.1 ∧ ∀ t, t ∈ m.2.2.2.1 ↔ t ∈ x.1.2.2.2.1 ∧ t.2 ≤ x.2
theorem sp_Keep (h : Has P F_search_machine_keep) : Sp_Keep P := by
  rintro ⟨⟨a, s, at_, T, seen⟩, fr⟩ hl hs
  refine fn_search_machine_keep h ?_
  unfold W_search_machine_keep
  dsimp only at hl hs ⊢
  refine JoinW.mid (fun m => m = (a, (s, (at_, (T, seen)))) ∧ ∀ t ∈ T, t.2 ≤ fr) ?_ ?_
  · refine LoopW.of (fun d => d.1 = T.length ∧ d.2.2 = (a, (s, (at_, (T, seen)))) ∧ 0 ≤ d.2.1 ∧ d.2.1 ≤ T.length ∧ ∀ k : Nat, (k : Int) < d.2.1 → (T.getD k ((0 : Int), (0 : Int))).2 ≤ fr) (fun d => (T.length - d.2.1).toNat) ⟨rfl, rfl, Int.le_refl _, by dsimp only; omega, fun k hk => by dsimp only at hk; omega⟩ ?_
    rintro ⟨n, k, m⟩ ⟨hn, hm, k0, k1, hk⟩
    dsimp only at hn hm k0 k1 hk ⊢
    subst hm
    dsimp only
    refine ⟨fun hc => JoinW.of ?_, fun hc => ?_⟩
    · have hc := of_decide_eq_true hc
      have ek : IntKind.i64.wrap (k + 1) = k + 1 := w64 (by omega) (by omega)
      rw [ek, Nat.zero_add]
      refine ⟨⟨k0, by omega⟩, by omega, fun hb => ?_, fun hb => ?_⟩
      · have hb := of_decide_eq_true hb
        refine ⟨⟨k0, by omega⟩, by omega, rfl, rfl, rfl, rfl, by simpa using List.take_sublist _ _, fun t => ?_⟩
        rw [List.drop_zero]
        have hkT : k.toNat < T.length := by omega
        rw [getD_eq hkT] at hb
        constructor
        · intro ht
          obtain ⟨i, hi, rfl⟩ := List.getElem_of_mem ht
          simp at hi
          rw [List.getElem_take]
          have := hk i (by omega)
          rw [getD_eq (by omega)] at this
          exact ⟨List.getElem_mem _, this⟩
        · rintro ⟨ht, hle⟩
          obtain ⟨i, hi, rfl⟩ := List.getElem_of_mem ht
          have hik : i < k.toNat := by
            rcases Nat.lt_trichotomy i k.toNat with h | h | h
            · exact h
            · subst h; omega
            · have := List.pairwise_iff_getElem.1 hs _ _ hkT hi h
              omega
          exact List.mem_take_iff_getElem.2 ⟨i, by omega, rfl⟩
      · have hb := of_decide_eq_false hb
        refine ⟨⟨by simp [hn], rfl, by omega, by omega, fun k' hk' => ?_⟩, by omega⟩
        by_cases e : k' = k.toNat
        · subst e; omega
        · exact hk k' (by omega)
    · have hc := of_decide_eq_false hc
      refine ⟨rfl, fun t ht => ?_⟩
      obtain ⟨k', hk', rfl⟩ := List.getElem_of_mem ht
      have := hk k' (by omega)
      rwa [getD_eq hk'] at this
  · rintro m ⟨rfl, hm⟩
    exact ⟨rfl, rfl, rfl, rfl, List.Sublist.refl _, fun t => ⟨fun ht => ⟨ht, hm t ht⟩, fun ht => ht.1⟩⟩

/-- Where the threads lead by one byte. -/
def RkL (A : List State) (c : UInt8) (st en : Bool) (L : List (Int × Int)) (f : Int) (q : Nat) : Prop := ∃ t ∈ L, t.2 = f ∧ ∃ q0, rdR A c t.1.toNat q0 ∧ Rch A st en q0 q
structure RInv (A : List State) (c : UInt8) (st en : Bool) (L T : List (Int × Int)) (seen : List Bool) : Prop where
  len : seen.length = A.length
  cnt : T.length = seen.count true
  mem : ∀ q f, (q, f) ∈ T ↔ 0 ≤ q ∧ RkL A c st en L f q.toNat ∧ ∀ f', f' < f → ¬ RkL A c st en L f' q.toNat
  seen : ∀ q, seen.getD q false = true ↔ ∃ f, RkL A c st en L f q
  sorted : T.Pairwise (fun t u => t.2 ≤ u.2)

theorem hasF_eq {k0 w0 w1 w2 w3 : Int} {c : Int} (h1 : 0 ≤ c) (h2 : c ≤ 255) :
    (IntKind.u64.wrap ((BitVec.toNat (BitVec.ofInt IntKind.u64.bits (Int.fdiv (List.getD [w0, w1, w2, w3] (Int.toNat (IntKind.u8.wrap (Int.tdiv c (64 : Int)))) (0 : Int)) (2 ^ (min (Int.toNat (Int.tmod c (64 : Int))) IntKind.u64.bits))) &&& BitVec.ofInt IntKind.u64.bits (1 : Int)) : Nat) : Int) == (1 : Int)) = hasF (w0, (w1, (w2, w3))) c := by
  rw [(div64 h1 h2).1]; unfold hasF; rfl

def Sp_Read (P : Program) : Prop := ∀ x : search_machine, Valid x.1 → x.2.1.length ≤ 1099511627776 → 0 ≤ x.2.2.1 → x.2.2.1 < x.2.1.length → x.2.2.2.1.length ≤ 8000 → (∀ t ∈ x.2.2.2.1, 0 ≤ t.1 ∧ t.1 < (x.1.1.length : Int)) → x.2.2.2.1.Pairwise (fun t u => t.2 ≤ u.2) →
  Fn P "(*mergelens/search.machine).read" S_search_machine_read x fun _ (m : search_machine) => m.1 = x.1 ∧ m.2.1 = x.2.1 ∧ m.2.2.1 = x.2.2.1 + 1 ∧ RInv x.1.1 (x.2.1.getD x.2.2.1.toNat 0) (x.2.2.1 + 1 == 0) (x.2.2.1 + 1 == ((List.length x.2.1 : Nat) : Int)) x.2.2.2.1 m.2.2.2.1 m.2.2.2.2
theorem sp_Read (h : Has P F_search_machine_read) (hAdd : Sp_Add P) : Sp_Read P := by
  rintro ⟨a, s, at_, T, seen⟩ hv hs hat0 hat1 hl hT hsort
  refine fn_search_machine_read h ?_
  unfold W_search_machine_read
  dsimp only at hv hs hat0 hat1 hl hT hsort ⊢
  have hn := hv.hi
  have ea : IntKind.i64.wrap (at_ + 1) = at_ + 1 := w64 (by omega) (by omega)
  rw [ea]
  have e3 : (Int.toNat ((List.length a.1 : Nat) : Int)) = a.1.length := by omega
  rw [e3]
  refine JoinW.of ⟨⟨hat0, by omega⟩, ?_, trivial⟩
  refine JoinW.mid (fun m => m = (a, (s, (at_ + 1, ([], List.replicate a.1.length false))))) ?_ ?_
  · simp only [and_true, and_self]
    omega
  rintro m rfl
  try dsimp only
  generalize hc : s.getD at_.toNat 0 = c
  generalize hst : (at_ + 1 == (0 : Int)) = st
  generalize hen : (at_ + 1 == ((List.length s : Nat) : Int)) = en
  have hcr : 0 ≤ (c.toNat : Int) ∧ (c.toNat : Int) ≤ 255 := by have := c.toNat_lt; omega
  refine JoinW.mid (fun m => m.1 = a ∧ m.2.1 = s ∧ m.2.2.1 = at_ + 1 ∧ RInv a.1 c st en T m.2.2.2.1 m.2.2.2.2) ?_ fun m hm => hm
  refine LoopW.of (fun d => 0 ≤ d.1 ∧ d.1 ≤ T.length ∧ d.2.1 = a ∧ d.2.2.1 = s ∧ d.2.2.2.1 = at_ + 1 ∧ RInv a.1 c st en (T.take d.1.toNat) d.2.2.2.2.1 d.2.2.2.2.2) (fun d => (T.length - d.1).toNat) ?_ ?_
  · have hno : ∀ f q, ¬ RkL a.1 c st en (T.take (0 : Int).toNat) f q := by
      rintro f q ⟨t, ht, _⟩
      simp at ht
    refine ⟨Int.le_refl _, by dsimp only; omega, rfl, rfl, rfl, ⟨by simp, ?_, fun q f => ⟨fun h => (nomatch h), fun h => (hno _ _ h.2.1).elim⟩, fun q => ⟨fun h => ?_, fun ⟨f, h⟩ => (hno _ _ h).elim⟩, List.Pairwise.nil⟩⟩
    · simp [List.count_replicate]
    · exfalso
      simp [List.getD_eq_getElem?_getD, List.getElem?_replicate] at h
      split at h <;> simp at h
  · rintro ⟨k, a', s', at', T', sn⟩ ⟨k0, k1, ea', es', eat', R⟩
    dsimp only at k0 k1 ea' es' eat' R ⊢
    obtain rfl := ea'.symm
    obtain rfl := es'.symm
    subst eat'
    refine ⟨fun hk => JoinW.of ?_, fun hk => ?_⟩
    · have hk := of_decide_eq_true hk
      have ek : IntKind.i64.wrap (k + 1) = k + 1 := w64 (by omega) (by omega)
      rw [ek]
      have hkT : k.toNat < T.length := by omega
      have htk := hT _ (getD_mem (d := ((0 : Int), (0 : Int))) hkT)
      have etake : T.take (k + 1).toNat = T.take k.toNat ++ [T.getD k.toNat ((0 : Int), (0 : Int))] := by
        rw [show (k + 1).toNat = k.toNat + 1 by omega, List.take_add_one, List.getElem?_eq_getElem hkT, getD_eq hkT]; rfl
      have hprev : ∀ f' q, RkL a.1 c st en (T.take k.toNat) f' q → f' ≤ (T.getD k.toNat ((0 : Int), (0 : Int))).2 := by
        rintro f' q ⟨t, ht, rfl, _⟩
        obtain ⟨i, hi, rfl⟩ := List.getElem_of_mem ht
        simp at hi
        rw [List.getElem_take, getD_eq hkT]
        exact List.pairwise_iff_getElem.1 hsort _ _ (by omega) hkT (by omega)
      generalize T.getD k.toNat ((0 : Int), (0 : Int)) = t at htk etake hprev ⊢
      obtain ⟨p, f⟩ := t
      dsimp only at htk hprev ⊢
      refine ⟨⟨k0, hk⟩, hkT, ?_⟩
      refine JoinW.mid (fun d => d = a.1.getD p.toNat zState) ?_ ?_
      · repeat' apply And.intro
        all_goals first | trivial | rfl | omega
      intro x hx
      have hok := hv.ok p.toNat (by omega)
      have hrd : ∀ q0, rdR a.1 c p.toNat q0 ↔ x.1 = 0 ∧ hasF x.2.1 (c.toNat : Int) = true ∧ q0 = x.2.2.1.toNat := fun q0 => by unfold rdR; rw [← hx]
      rw [← hx] at hok
      clear hx
      obtain ⟨kd, ⟨w0, w1, w2, w3⟩, nx, ot⟩ := x
      obtain ⟨o1, o2, o3, o4⟩ := hok
      dsimp only at o1 o2 o3 o4 hrd ⊢
      obtain ⟨g1, g2, g3, g4⟩ := div64 hcr.1 hcr.2
      have hsp : ∀ f' q, RkL a.1 c st en (T.take (k + 1).toNat) f' q ↔ RkL a.1 c st en (T.take k.toNat) f' q ∨ (f' = f ∧ kd = 0 ∧ hasF (w0, (w1, (w2, w3))) (c.toNat : Int) = true ∧ Rch a.1 st en nx.toNat q) := by
        intro f' q
        rw [etake]
        constructor
        · rintro ⟨t, ht, h1, q0, h2, h3⟩
          rcases List.mem_append.1 ht with ht | ht
          · exact .inl ⟨t, ht, h1, q0, h2, h3⟩
          · simp at ht; subst ht
            obtain ⟨r1, r2, rfl⟩ := (hrd q0).1 h2
            exact .inr ⟨h1.symm, r1, r2, h3⟩
        · rintro (⟨t, ht, h1, q0, h2, h3⟩ | ⟨rfl, h1, h2, h3⟩)
          · exact ⟨t, by simp [ht], h1, q0, h2, h3⟩
          · exact ⟨(p, f'), by simp, rfl, nx.toNat, (hrd _).2 ⟨h1, h2, rfl⟩, h3⟩
      refine ⟨fun _ => by decide, fun _ => by rw [g1]; omega, fun _ => by rw [g1]; omega, fun _ => by decide, fun _ => g4, ?_⟩
      rw [hasF_eq (k0 := 0) hcr.1 hcr.2]
      refine JoinW.mid (fun m => m.1 = a ∧ m.2.1 = s ∧ m.2.2.1 = at_ + 1 ∧ RInv a.1 c st en (T.take (k + 1).toNat) m.2.2.2.1 m.2.2.2.2) ?_ ?_
      · refine ⟨fun hb => ?_, fun hb => ?_⟩
        · simp at hb
          obtain ⟨hb1, hb2⟩ := hb
          have hnx := o3 (by omega)
          refine (hAdd ((a, (s, (at_ + 1, (T', sn)))), (nx, f)) hv R.len R.cnt hnx.1 hnx.2 ?_).to ?_
          · show Closed a.1 (stOf _) (enOf _) sn
            intro q hq q' he
            obtain ⟨f', t, ht, h1, q0, h2, h3⟩ := (R.seen q).1 hq
            refine (R.seen q').2 ⟨f', t, ht, h1, q0, h2, h3.tail ?_⟩
            rw [← hst, ← hen]
            exact he
          · rintro _ (m : search_machine) ⟨N, A⟩
            have am := A.mem
            have asn := A.seen
            have hstm : stOf (a, (s, (at_ + 1, (T', sn)))) = st := hst
            have henm : enOf (a, (s, (at_ + 1, (T', sn)))) = en := hen
            dsimp only at am asn
            rw [hstm, henm] at am asn
            refine ⟨A.a, A.s, A.at_, ⟨by rw [A.len]; exact R.len, A.cnt, fun q f' => ?_, fun q => ?_, ?_⟩⟩
            · rw [A.th, List.mem_append, R.mem, List.mem_map]
              constructor
              · rintro (⟨h1, h2, h3⟩ | ⟨q', hq', he⟩)
                · refine ⟨h1, (hsp _ _).2 (.inl h2), fun f2 hf2 hh => ?_⟩
                  rcases (hsp _ _).1 hh with hh | ⟨rfl, _⟩
                  · exact h3 f2 hf2 hh
                  · have := hprev _ _ h2; omega
                · cases he
                  obtain ⟨h1, h2, h3⟩ := (am q).1 hq'
                  refine ⟨h1, (hsp _ _).2 (.inr ⟨rfl, hb1, hb2, h3⟩), fun f2 hf2 hh => ?_⟩
                  rcases (hsp _ _).1 hh with hh | ⟨rfl, _⟩
                  · rw [(R.seen q.toNat).2 ⟨f2, hh⟩] at h2; cases h2
                  · dsimp only at hf2; omega
              · rintro ⟨h1, h2, h3⟩
                rcases (hsp _ _).1 h2 with h2 | ⟨rfl, _, _, h2⟩
                · exact .inl ⟨h1, h2, fun f2 hf2 hh => h3 f2 hf2 ((hsp _ _).2 (.inl hh))⟩
                · by_cases hsn : sn.getD q.toNat false = true
                  · obtain ⟨f2, hf2⟩ := (R.seen _).1 hsn
                    have := hprev _ _ hf2
                    by_cases e : f2 = f'
                    · subst e; exact .inl ⟨h1, hf2, fun f3 hf3 hh => h3 f3 hf3 ((hsp _ _).2 (.inl hh))⟩
                    · exact (h3 f2 (by omega) ((hsp _ _).2 (.inl hf2))).elim
                  · exact .inr ⟨q, (am q).2 ⟨h1, by simpa using hsn, h2⟩, rfl⟩
            · rw [asn, R.seen]
              constructor
              · rintro (⟨f', h⟩ | h)
                · exact ⟨f', (hsp _ _).2 (.inl h)⟩
                · exact ⟨f, (hsp _ _).2 (.inr ⟨rfl, hb1, hb2, h⟩)⟩
              · rintro ⟨f', h⟩
                rcases (hsp _ _).1 h with h | ⟨_, _, _, h⟩
                · exact .inl ⟨f', h⟩
                · exact .inr h
            · rw [A.th]
              refine List.pairwise_append.2 ⟨R.sorted, ?_, ?_⟩
              · rw [List.pairwise_map]
                exact List.pairwise_iff_getElem.2 fun _ _ _ _ _ => Int.le_refl _
              · rintro ⟨q1, f1⟩ h1 t2 h2
                obtain ⟨q2, _, rfl⟩ := List.mem_map.1 h2
                exact hprev _ _ ((R.mem _ _).1 h1).2.1
        · have hno : ¬ (kd = 0 ∧ hasF (w0, (w1, (w2, w3))) (c.toNat : Int) = true) := by
            rintro ⟨h1, h2⟩
            rw [h1, h2] at hb
            simp at hb
          have hsp2 : ∀ f' q, RkL a.1 c st en (T.take (k + 1).toNat) f' q ↔ RkL a.1 c st en (T.take k.toNat) f' q := fun f' q => by
            rw [hsp]
            exact ⟨fun h => h.elim id fun h => (hno ⟨h.2.1, h.2.2.1⟩).elim, .inl⟩
          exact ⟨rfl, rfl, rfl, ⟨R.len, R.cnt, fun q f' => by simp only [hsp2]; exact R.mem q f', fun q => by simp only [hsp2]; exact R.seen q, R.sorted⟩⟩
      · rintro m ⟨m1, m2, m3, m4⟩
        exact ⟨⟨by omega, by omega, m1, m2, m3, m4⟩, by omega⟩
    · have hk := of_decide_eq_false hk
      have : T.take k.toNat = T := List.take_of_length_le (by omega)
      rw [this] at R
      exact ⟨rfl, rfl, rfl, R⟩
end Go.VS
