import Derived.Test.YtdnomijflodcgaaDoorKSm0
/- Graphs: children before their parents. -/
set_option linter.unusedVariables false
set_option linter.unusedSimpArgs false
namespace Go.VS
variable {P : Pg}
def rng (n : Nat) : List Int := (List.range n).map fun (i : Nat) => (i : Int)
theorem EV {n : Nat} {x : Int} : x ∈ rng n ↔ 0 ≤ x ∧ x < n := by
 unfold rng
 rw [List.mem_map]
 constructor
 ·rintro ⟨i, hi, rfl⟩
  have := List.mem_range.1 hi
  omega
 ·intro h
  exact ⟨x.toNat, List.mem_range.2 (by omega), by omega⟩
theorem Rq (n : Nat) : (rng n).Nodup := by
 unfold rng
 rw [List.nodup_iff_pairwise_ne, List.pairwise_map]
 exact (List.nodup_iff_pairwise_ne.1 List.nodup_range).imp fun h e => h (by omega)
theorem IL (n : Nat) : (rng n).length = n := by simp [rng]
theorem Aae (n : Nat) : rng (n + 1) = rng n ++ [(n : Int)] := by
 unfold rng
 rw [List.range_succ, List.map_append]
 rfl
def Dx (g : List Aq) (L : List Int) (p : Int) : Nat := (L.map fun c => (BF g c).count p).sum
def ndG (g : List Aq) : Prop := ∀ c, inR g c → (BF g c).Nodup
theorem Zs (g : List Aq) (L M : List Int) (p : Int) : Dx g (L ++ M) p = Dx g L p + Dx g M p := by
 unfold Dx
 rw [List.map_append, List.sum_append]
theorem W0 {g : List Aq} {p : Int} : ∀ {L : List Int}, (∀ c ∈ L, (BF g c).count p ≤ 1) → Dx g L p ≤ L.length
 | [], _ => Nat.le_refl _
 | c :: L, h => by
  have h1 := h c (List.mem_cons_self ..)
  have h2 := W0 (g := g) (p := p) (L := L) fun x hx => h x (List.mem_cons_of_mem _ hx)
  unfold Dx at h2 ⊢
  rw [List.map_cons, List.sum_cons, List.length_cons]
  omega
theorem Kp {g : List Aq} {p : Int} : ∀ {L : List Int}, Dx g L p = 0 ↔ ∀ c ∈ L, p ∉ BF g c
 | [] => by simp [Dx]
 | c :: L => by
  have ih := Kp (g := g) (p := p) (L := L)
  have hs : Dx g (c :: L) p = (BF g c).count p + Dx g L p := by unfold Dx; rw [List.map_cons, List.sum_cons]
  rw [hs]
  constructor
  ·intro h x hx
   rcases List.mem_cons.1 hx with rfl | hx
   ·intro hm
    have := List.count_pos_iff.2 hm
    omega
   ·exact ih.1 (by omega) x hx
  ·intro h
   have h1 : (BF g c).count p = 0 := List.count_eq_zero.2 (h c (List.mem_cons_self ..))
   have h2 := ih.2 fun x hx => h x (List.mem_cons_of_mem _ hx)
   omega
def Ha (g : List Aq) (Q : List Int) : List Int := (rng g.length).filter fun c => !decide (c ∈ Q)
theorem OI {g : List Aq} {Q : List Int} {c : Int} : c ∈ Ha g Q ↔ inR g c ∧ c ∉ Q := by
 unfold Ha
 rw [List.mem_filter, EV]
 simp [inR]
theorem Pb (g : List Aq) (Q : List Int) (c p : Int) (hq : c ∉ Q) : ∀ {R : List Int}, R.Nodup → c ∈ R → Dx g (R.filter fun x => !decide (x ∈ Q)) p = Dx g (R.filter fun x => !decide (x ∈ Q ++ [c])) p + (BF g c).count p
 | [], _, h => nomatch h
 | a :: R, hn, h => by
  have hn2 := List.nodup_cons.1 hn
  by_cases e : a = c
  ·subst e
   have hsame : (R.filter fun x => !decide (x ∈ Q ++ [a])) = R.filter fun x => !decide (x ∈ Q) := by
    refine List.filter_congr fun x hx => ?_
    have hxa : x ≠ a := fun e => hn2.1 (by rw [← e]; exact hx)
    simp [hxa]
   rw [List.filter_cons_of_pos (by simpa using hq), List.filter_cons_of_neg (by simp), hsame]
   unfold Dx
   rw [List.map_cons, List.sum_cons]
   omega
  ·have hc : c ∈ R := (List.mem_cons.1 h).resolve_left fun h => e h.symm
   have ih := Pb g Q c p hq hn2.2 hc
   by_cases ha : a ∈ Q
   ·rw [List.filter_cons_of_neg (by simpa using ha), List.filter_cons_of_neg (by simp [ha])]
    exact ih
   ·rw [List.filter_cons_of_pos (by simpa using ha), List.filter_cons_of_pos (by simp [ha, e])]
    unfold Dx at ih ⊢
    rw [List.map_cons, List.sum_cons, List.map_cons, List.sum_cons]
    omega
theorem XV {g : List Aq} {Q : List Int} {c : Int} (p : Int) (hq : c ∉ Q) (hc : inR g c) : Dx g (Ha g Q) p = Dx g (Ha g (Q ++ [c])) p + (BF g c).count p :=
 Pb g Q c p hq (Rq _) (EV.2 hc)
theorem AbO (g : List Aq) : Ha g [] = rng g.length := by
 unfold Ha
 rw [List.filter_eq_self]
 intro a _
 simp
structure UpG (g : List Aq) (d : List Int) : Prop where
 nd : d.Nodup
 rn : ∀ p ∈ d, inR g p
 ord : ∀ i, i < d.length → ∀ c, inR g c → d.getD i 0 ∈ BF g c → c ∈ d.take i
 rem : ∀ p, inR g p → p ∉ d → ∃ c, inR g c ∧ c ∉ d ∧ p ∈ BF g c
def L8 (g : List Aq) : Prop := ∃ c, inR g c ∧ ∃ p ∈ BF g c, Rch g p c
theorem UpG.len {g : List Aq} {d : List Int} (h : UpG g d) : d.length ≤ g.length := by
 have := FL h.nd (m := rng g.length) fun x hx => EV.2 (h.rn x hx)
 rwa [IL] at this
theorem UpG.all {g : List Aq} {d : List Int} (h : UpG g d) (hl : g.length ≤ d.length) {p : Int} (hp : inR g p) : p ∈ d := by
 by_cases e : p ∈ d
 ·exact e
 ·have := FL h.nd (m := (rng g.length).erase p) fun x hx => (List.mem_erase_of_ne (show x ≠ p from fun e2 => e (by rw [← e2]; exact hx))).2 (EV.2 (h.rn x hx))
  have hm := EV.2 hp
  rw [List.length_erase_of_mem hm, IL] at this
  have := hp.1
  have := hp.2
  omega
theorem TQ {g : List Aq} {d : List Int} (h : UpG g d) : ∀ (m : Nat) (x : Int) (L : List Int), g.length - (x :: L).length < m → (x :: L).Nodup → (∀ y ∈ x :: L, inR g y ∧ Rch g x y) → x ∉ d → L8 g
 | 0, _, _, h0, _, _, _ => absurd h0 (Nat.not_lt_zero _)
 | m + 1, x, L, hm, hn, hr, hx => by
  obtain ⟨c, hc, hcd, hp⟩ := h.rem x (hr x (List.mem_cons_self ..)).1 hx
  by_cases e : c ∈ x :: L
  ·exact ⟨c, hc, x, hp, (hr c e).2⟩
  ·have hl := FL (List.nodup_cons.2 ⟨e, hn⟩) (m := rng g.length) fun y hy => by
    rcases List.mem_cons.1 hy with rfl | hy
    ·exact EV.2 hc
    ·exact EV.2 (hr y hy).1
   rw [IL] at hl
   simp only [List.length_cons] at hl hm
   refine TQ h m c (x :: L) (by simp only [List.length_cons]; omega) (List.nodup_cons.2 ⟨e, hn⟩) (fun y hy => ?_) hcd
   rcases List.mem_cons.1 hy with rfl | hy
   ·exact ⟨hc, .refl _⟩
   ·exact ⟨(hr y hy).1, .step hp (hr y hy).2⟩
theorem Adk {g : List Aq} {d : List Int} (hv : Vl g) (h : UpG g d) : d.length < g.length ↔ L8 g := by
 constructor
 ·intro hl
  have : ∃ p, inR g p ∧ p ∉ d := by
   by_cases e : ∃ p, inR g p ∧ p ∉ d
   ·exact e
   ·have := FL (Rq g.length) (m := d) fun x hx => by
     by_cases e2 : x ∈ d
     ·exact e2
     ·exact absurd ⟨x, EV.1 hx, e2⟩ e
    rw [IL] at this
    omega
  obtain ⟨p, hp, hpd⟩ := this
  refine TQ h (g.length + 1) p [] (by simp only [List.length_cons, List.length_nil]; omega) (by simp) (fun y hy => ?_) hpd
  rw [List.mem_singleton.1 hy]
  exact ⟨hp, .refl _⟩
 ·rintro ⟨c, hc, p, hp, hr⟩
  by_cases hl : d.length < g.length
  ·exact hl
  exfalso
  have hall := fun {x : Int} (hx : inR g x) => h.all (by omega) hx
  have hidx : ∀ {x : Int}, inR g x → ∃ i, ∃ hi : i < d.length, d[i] = x := fun hx => List.getElem_of_mem (hall hx)
  have hinj : ∀ {i j : Nat} (hi : i < d.length) (hj : j < d.length), d[i] = d[j] → i = j := fun {i j} hi hj e => by
   have hpw := List.pairwise_iff_getElem.1 (List.nodup_iff_pairwise_ne.1 h.nd)
   rcases Nat.lt_trichotomy i j with h1 | h1 | h1
   ·exact absurd e (hpw i j hi hj h1)
   ·exact h1
   ·exact absurd e.symm (hpw j i hj hi h1)
  have hstep : ∀ {a b : Int} {i j : Nat} (hi : i < d.length) (hj : j < d.length), inR g a → d[i] = a → d[j] = b → b ∈ BF g a → i < j := fun {a b i j} hi hj ha e1 e2 hb => by
   have h1 := h.ord j hj a ha (by rw [getD_eq hj, e2]; exact hb)
   obtain ⟨k, hk, hke⟩ := List.getElem_of_mem h1
   rw [List.getElem_take] at hke
   have hk2 : k < j ∧ k < d.length := by rw [List.length_take] at hk; omega
   have := hinj hk2.2 hi (by rw [hke, e1])
   omega
  have hmono : ∀ {a b : Int}, Rch g a b → inR g a → ∀ {i j : Nat} (hi : i < d.length) (hj : j < d.length), d[i] = a → d[j] = b → i ≤ j := by
   intro a b hab
   induction hab with
   | refl c => intro _ i j hi hj e1 e2; exact Nat.le_of_eq (hinj hi hj (by rw [e1, e2]))
   | step hq _ ih =>
    intro ha i j hi hj e1 e2
    have hqr := hv _ ha _ hq
    obtain ⟨k, hk, hke⟩ := hidx hqr
    have h1 := hstep hi hk ha e1 hke hq
    have h2 := ih hqr hk hj hke e2
    omega
  have hpr := hv c hc p hp
  obtain ⟨i, hi, hie⟩ := hidx hc
  obtain ⟨j, hj, hje⟩ := hidx hpr
  have h1 := hstep hi hj hc hie hje hp
  have h2 := hmono hr hpr hj hi hje hie
  omega
structure Up3 (g : List Aq) (ch out : List Int) (k : Nat) : Prop where
 len : ch.length = g.length
 cnt : ∀ p, inR g p → ch.getD p.toNat 0 = ((Dx g (Ha g (out.take k)) p : Nat) : Int)
 mem : ∀ p, inR g p → (p ∈ out ↔ ch.getD p.toNat 0 = 0)
 rn : ∀ p ∈ out, inR g p
 nd : out.Nodup
 ord : ∀ i, i < out.length → ∀ c, inR g c → out.getD i 0 ∈ BF g c → c ∈ out.take i
 kl : k ≤ out.length
structure Up4 (g : List Aq) (c : Int) (Q ch out : List Int) (k j : Nat) : Prop where
 len : ch.length = g.length
 cnt : ∀ p, inR g p → ch.getD p.toNat 0 = ((Dx g (Ha g Q) p + ((BF g c).drop j).count p : Nat) : Int)
 mem : ∀ p, inR g p → (p ∈ out ↔ ch.getD p.toNat 0 = 0)
 rn : ∀ p ∈ out, inR g p
 nd : out.Nodup
 ord : ∀ i, i < out.length → ∀ c, inR g c → out.getD i 0 ∈ BF g c → c ∈ out.take i
 pre : out.take (k + 1) = Q
 kl : k < out.length
theorem SL {g : List Aq} {out : List Int} (nd : out.Nodup) (rn : ∀ p ∈ out, inR g p) : out.length ≤ g.length := by
 have := FL nd (m := rng g.length) fun x hx => EV.2 (rn x hx)
 rwa [IL] at this
theorem Aa6 {l : List Int} (hn : l.Nodup) {j : Nat} (hj : j < l.length) : l.drop j = l.getD j 0 :: l.drop (j + 1) ∧ (l.drop (j + 1)).count (l.getD j 0) = 0 := by
 have h1 : l.drop j = l.getD j 0 :: l.drop (j + 1) := by rw [List.drop_eq_getElem_cons hj, getD_eq hj]
 refine ⟨h1, List.count_eq_zero.2 ?_⟩
 have h2 : (l.drop j).Nodup := List.Nodup.sublist (List.drop_sublist j l) hn
 rw [h1] at h2
 exact (List.nodup_cons.1 h2).1
def M7 (P : Pg) : Prop := ∀ g : List Aq, g.length ≤ 1000000 → Vl g → ndG g → (∀ c, inR g c → (BF g c).length ≤ 1000000) → Fn P AaJ Ds g fun (d : List Int) _ => UpG g d
theorem YK (h : Has P Gl) : M7 P := by
 intro g hn hv hnd hpl
 refine Qw h ?_
 unfold LO
 dsimp only
 refine ⟨⟨Int.natCast_nonneg _, Int.le_refl _, by omega⟩, ?_⟩
 have hc1 : ∀ (L : List Int) (p : Int), (∀ c ∈ L, inR g c) → Dx g L p ≤ L.length := fun L p hL => W0 fun c hc => List.nodup_iff_count.1 (hnd c (hL c hc)) p
 have hrl : ∀ (i : Nat) (p : Int), i ≤ g.length → Dx g (rng i) p ≤ i := fun i p hi => by
  have := hc1 (rng i) p fun c hc => ⟨(EV.1 hc).1, by have := (EV.1 hc).2; omega⟩
  rwa [IL] at this
 refine Ai.mid (fun ch => ch.length = g.length ∧ ∀ p, inR g p → ch.getD p.toNat 0 = ((Dx g (rng g.length) p : Nat) : Int)) ?_ ?_
 ·refine Bl.of (fun q => (0 ≤ q.2 ∧ q.2 ≤ g.length) ∧ q.1.length = g.length ∧ ∀ p, inR g p → q.1.getD p.toNat 0 = ((Dx g (rng q.2.toNat) p : Nat) : Int)) (fun q => (g.length - q.2).toNat) ⟨⟨Int.le_refl _, Int.natCast_nonneg _⟩, by simp, fun p hp => by
   rw [Pv (by have := hp.1; have := hp.2; omega)]; rfl⟩ ?_
  rintro ⟨ch, i⟩ ⟨⟨i0, i1⟩, hl, hcn⟩
  dsimp only at i0 i1 hl hcn ⊢
  refine ⟨fun hi => ?_, fun hi => ?_⟩
  ·have hi := of_decide_eq_true hi
   have hi2 : i.toNat < g.length := by omega
   have hir : inR g i := ⟨i0, hi⟩
   have hpc := hpl i hir
   have hit : ((i.toNat : Nat) : Int) = i := by omega
   refine Ai.mid (fun ch => ch.length = g.length ∧ ∀ p, inR g p → ch.getD p.toNat 0 = ((Dx g (rng (i.toNat + 1)) p : Nat) : Int)) ⟨⟨i0, hi⟩, hi2, ?_⟩ ?_
   ·refine Ai.mid (fun ch => ch.length = g.length ∧ ∀ p, inR g p → ch.getD p.toNat 0 = ((Dx g (rng (i.toNat + 1)) p : Nat) : Int)) ?_ fun _ h => h
    have hnx : ∀ p, Dx g (rng (i.toNat + 1)) p = Dx g (rng i.toNat) p + (BF g i).count p := fun p => by
     rw [Aae, Zs, hit]
     unfold Dx
     simp
    show Bl _ _
    refine Bl.of (fun q => (0 ≤ q.2 ∧ q.2 ≤ (BF g i).length) ∧ q.1.length = g.length ∧ ∀ p, inR g p → q.1.getD p.toNat 0 = ((Dx g (rng i.toNat) p + ((BF g i).take q.2.toNat).count p : Nat) : Int)) (fun q => ((BF g i).length - q.2).toNat) ⟨⟨Int.le_refl _, Int.natCast_nonneg _⟩, hl, fun p hp => by
     rw [hcn p hp]; rfl⟩ ?_
    rintro ⟨ch, j⟩ ⟨⟨j0, j1⟩, hl, hcn⟩
    dsimp only at j0 j1 hl hcn ⊢
    refine ⟨fun hj => ?_, fun hj => ?_⟩
    ·have hj : j < (BF g i).length := of_decide_eq_true hj
     have hj2 : j.toNat < (BF g i).length := by omega
     have hqm : (BF g i).getD j.toNat 0 ∈ BF g i := BK hj2
     have htk : (BF g i).take (j.toNat + 1) = (BF g i).take j.toNat ++ [(BF g i).getD j.toNat 0] := by
      rw [List.take_succ_eq_append_getElem hj2, getD_eq hj2]
     have hqr := hv i hir _ hqm
     have hcq := hcn _ hqr
     have hd1 := hrl i.toNat ((BF g i).getD j.toNat 0) (by omega)
     have hd2 : ((BF g i).take j.toNat).count ((BF g i).getD j.toNat 0) ≤ 1000000 := Nat.le_trans List.count_le_length (by rw [List.length_take]; omega)
     show Ai _ _
     have hqe : (g.getD i.toNat Ak).1.getD j.toNat 0 = (BF g i).getD j.toNat 0 := rfl
     rw [hqe]
     generalize (BF g i).getD j.toNat 0 = q at hqm htk hqr hcq hd1 hd2 ⊢
     have hql : q.toNat < ch.length := by have := hqr.1; have := hqr.2; omega
     have hqlt : q < ((ch.length : Nat) : Int) := by have := hqr.2; omega
     refine Ai.mid (fun t => t = ch.set q.toNat (ch.getD q.toNat 0 + 1)) ⟨⟨j0, hj⟩, hj2, ⟨hqr.1, hqlt⟩, hql, ⟨hqr.1, hqlt⟩, hql, by rw [w64 (by omega) (by omega)]⟩ ?_
     rintro t rfl
     rw [w64 (by omega) (by omega)]
     refine ⟨⟨⟨by omega, by omega⟩, by rw [List.length_set]; exact hl, fun p hp => ?_⟩, by omega⟩
     rw [Mh hql, show (j + 1).toNat = j.toNat + 1 by omega, htk, List.count_append, List.count_singleton]
     have hp0 := hp.1
     have hq0 := hqr.1
     by_cases e : p = q
     ·subst e
      rw [if_pos rfl, hcq]
      simp
      omega
     ·rw [if_neg (by omega), hcn p hp]
      have : (q == p) = false := beq_eq_false_iff_ne.2 fun h => e h.symm
      rw [this]
      simp
    ·have hj : ¬ j < (BF g i).length := of_decide_eq_false hj
     refine ⟨hl, fun p hp => ?_⟩
     rw [hcn p hp, List.take_of_length_le (by omega), hnx]
   ·rintro t ⟨ht, htc⟩
    rw [w64 (by omega) (by omega)]
    exact ⟨⟨⟨by omega, by omega⟩, ht, by rw [show (i + 1).toNat = i.toNat + 1 by omega]; exact htc⟩, by omega⟩
  ·have hi := of_decide_eq_false hi
   rw [show i.toNat = g.length by omega] at hcn
   exact ⟨hl, hcn⟩
 rintro ch ⟨hl, hcn⟩
 refine Ai.mid (fun out => Up3 g ch out 0) ?_ ?_
 ·refine Bl.of (fun q => (0 ≤ q.2 ∧ q.2 ≤ g.length) ∧ q.1.Nodup ∧ ∀ x, x ∈ q.1 ↔ (0 ≤ x ∧ x < q.2) ∧ ch.getD x.toNat 0 = 0) (fun q => (g.length - q.2).toNat) ⟨⟨Int.le_refl _, Int.natCast_nonneg _⟩, List.nodup_nil, fun x => ⟨fun h => (nomatch h), fun h => by have := h.1.1; have := h.1.2; omega⟩⟩ ?_
  rintro ⟨out, i⟩ ⟨⟨i0, i1⟩, hnd2, hm⟩
  dsimp only at i0 i1 hnd2 hm ⊢
  have hol : out.length ≤ g.length := SL hnd2 fun p hp => ⟨((hm p).1 hp).1.1, by have := ((hm p).1 hp).1.2; omega⟩
  refine ⟨fun hi => ?_, fun hi => ?_⟩
  ·have hi := of_decide_eq_true hi
   have hi2 : i.toNat < ch.length := by omega
   refine Ai.mid (fun t => t.Nodup ∧ ∀ x, x ∈ t ↔ (0 ≤ x ∧ x < i + 1) ∧ ch.getD x.toNat 0 = 0) ⟨⟨i0, hi⟩, hi2, ?_⟩ fun t ht => ?_
   ·refine Ai.mid (fun t => t.Nodup ∧ ∀ x, x ∈ t ↔ (0 ≤ x ∧ x < i + 1) ∧ ch.getD x.toNat 0 = 0) ⟨fun hz => ⟨by simp only [List.length_cons, List.length_nil]; omega, ?_, fun x => ?_⟩, fun hz => ⟨hnd2, fun x => ?_⟩⟩ fun _ h => h
    ·rw [List.nodup_append]
     refine ⟨hnd2, by simp, fun a ha b hb e => ?_⟩
     rw [List.mem_singleton] at hb
     have := ((hm a).1 ha).1.2
     omega
    ·have hz : ch.getD i.toNat 0 = 0 := by simpa using hz
     rw [List.mem_append, List.mem_singleton, hm x]
     constructor
     ·rintro (⟨h1, h2⟩ | rfl)
      ·exact ⟨⟨h1.1, by omega⟩, h2⟩
      ·exact ⟨⟨i0, by omega⟩, hz⟩
     ·rintro ⟨h1, h2⟩
      by_cases e : x = i
      ·exact .inr e
      ·exact .inl ⟨⟨h1.1, by omega⟩, h2⟩
    ·have hz : ch.getD i.toNat 0 ≠ 0 := by simpa using hz
     rw [hm x]
     constructor
     ·rintro ⟨h1, h2⟩
      exact ⟨⟨h1.1, by omega⟩, h2⟩
     ·rintro ⟨h1, h2⟩
      by_cases e : x = i
      ·exact absurd (by rw [← e]; exact h2) hz
      ·exact ⟨⟨h1.1, by omega⟩, h2⟩
   ·rw [w64 (by omega) (by omega)]
    exact ⟨⟨⟨by omega, by omega⟩, ht⟩, by omega⟩
  ·have hi := of_decide_eq_false hi
   refine ⟨hl, fun p hp => ?_, fun p hp => ?_, fun p hp => ?_, hnd2, fun k hk c hc hp => ?_, Nat.zero_le _⟩
   ·rw [hcn p hp, List.take_zero, AbO]
   ·rw [hm p]
    exact ⟨fun h => h.2, fun h => ⟨⟨hp.1, by have := hp.2; omega⟩, h⟩⟩
   ·exact ⟨((hm p).1 hp).1.1, by have := ((hm p).1 hp).1.2; omega⟩
   ·have hz := ((hm _).1 (BK (d := (0 : Int)) hk)).2
    have hr : inR g (out.getD k 0) := ⟨((hm _).1 (BK (d := (0 : Int)) hk)).1.1, by have := ((hm _).1 (BK (d := (0 : Int)) hk)).1.2; omega⟩
    rw [hcn _ hr] at hz
    have hz2 : Dx g (rng g.length) (out.getD k 0) = 0 := by omega
    exact absurd hp (Kp.1 hz2 c (EV.2 hc))
 intro out0 hU0
 refine Ai.mid (fun out => UpG g out) ?_ fun _ h => h
 refine Bl.of (fun q => 0 ≤ q.2.2 ∧ Up3 g q.1 q.2.1 q.2.2.toNat) (fun q => (g.length - q.2.2).toNat) ⟨Int.le_refl _, hU0⟩ ?_
 rintro ⟨ch, out, k⟩ ⟨k0, hU⟩
 dsimp only at k0 hU ⊢
 have hol := SL hU.nd hU.rn
 have hkl := hU.kl
 refine ⟨fun hk => ?_, fun hk => ?_⟩
 ·have hk := of_decide_eq_true hk
  have hk2 : k.toNat < out.length := by omega
  have hcm : out.getD k.toNat 0 ∈ out := BK hk2
  have hcr := hU.rn _ hcm
  have hpre : out.take (k.toNat + 1) = out.take k.toNat ++ [out.getD k.toNat 0] := by rw [List.take_succ_eq_append_getElem hk2, getD_eq hk2]
  have hcn2 : out.getD k.toNat 0 ∉ out.take k.toNat := fun hm => by
   have h2 : (out.take (k.toNat + 1)).Nodup := List.Nodup.sublist (List.take_sublist _ _) hU.nd
   rw [hpre, List.nodup_append] at h2
   exact h2.2.2 _ hm _ (List.mem_singleton.2 rfl) rfl
  generalize hc : out.getD k.toNat 0 = c at hcm hcr hpre hcn2
  have hcl : c.toNat < g.length := by have := hcr.1; have := hcr.2; omega
  have hpc := hpl c hcr
  refine Ai.mid (fun q => Up3 g q.1 q.2 (k.toNat + 1)) ⟨⟨k0, hk⟩, hk2, ?_⟩ fun q hq => ?_
  ·refine ⟨⟨hcr.1, hcr.2⟩, hcl, ?_⟩
   refine Ai.mid (fun q => Up3 g q.1 q.2 (k.toNat + 1)) ?_ fun _ h => h
   show Bl _ _
   refine Bl.of (fun q => (0 ≤ q.2.2 ∧ q.2.2 ≤ (BF g c).length) ∧ Up4 g c (out.take (k.toNat + 1)) q.1 q.2.1 k.toNat q.2.2.toNat) (fun q => ((BF g c).length - q.2.2).toNat) ⟨⟨Int.le_refl _, Int.natCast_nonneg _⟩, hU.len, fun p hp => ?_, hU.mem, hU.rn, hU.nd, hU.ord, rfl, hk2⟩ ?_
   ·rw [hU.cnt p hp, XV p hcn2 hcr, ← hpre]
    rfl
   rintro ⟨ch, out', j⟩ ⟨⟨j0, j1⟩, hV⟩
   dsimp only at j0 j1 hV ⊢
   have hol' := SL hV.nd hV.rn
   refine ⟨fun hj => ?_, fun hj => ?_⟩
   ·have hj : j < (BF g c).length := of_decide_eq_true hj
    have hj2 : j.toNat < (BF g c).length := by omega
    have hqm : (BF g c).getD j.toNat 0 ∈ BF g c := BK hj2
    have hqr := hv c hcr _ hqm
    obtain ⟨hdr, hdz⟩ := Aa6 (hnd c hcr) hj2
    show Ai _ _
    have hqe : (g.getD c.toNat Ak).1.getD j.toNat 0 = (BF g c).getD j.toNat 0 := rfl
    rw [hqe]
    generalize (BF g c).getD j.toNat 0 = q at hqm hqr hdr hdz ⊢
    have hql : q.toNat < ch.length := by have := hqr.1; have := hqr.2; have := hV.len; omega
    have hqlt : q < ((ch.length : Nat) : Int) := by have := hqr.2; have := hV.len; omega
    have hcq := hV.cnt q hqr
    have hdb : Dx g (Ha g (out.take (k.toNat + 1))) q ≤ g.length := by
     refine Nat.le_trans (hc1 _ q fun x hx => (OI.1 hx).1) ?_
     unfold Ha
     exact Nat.le_trans (List.length_filter_le ..) (by rw [IL]; exact Nat.le_refl _)
    rw [hdr, List.count_cons_self, hdz] at hcq
    have hw : IntKind.i64.wrap (ch.getD q.toNat 0 - 1) = ((Dx g (Ha g (out.take (k.toNat + 1))) q : Nat) : Int) := by rw [w64 (by omega) (by omega)]; omega
    rw [hw]
    have hgs : (ch.set q.toNat ((Dx g (Ha g (out.take (k.toNat + 1))) q : Nat) : Int)).getD q.toNat 0 = ((Dx g (Ha g (out.take (k.toNat + 1))) q : Nat) : Int) := by rw [Mh hql, if_pos rfl]
    rw [hgs]
    have hls : (ch.set q.toNat ((Dx g (Ha g (out.take (k.toNat + 1))) q : Nat) : Int)).length = ch.length := List.length_set
    have hqno : q ∉ out' := fun hm => by
     have := (hV.mem q hqr).1 hm
     omega
    have hcnt : ∀ p, inR g p → (ch.set q.toNat ((Dx g (Ha g (out.take (k.toNat + 1))) q : Nat) : Int)).getD p.toNat 0 = ((Dx g (Ha g (out.take (k.toNat + 1))) p + ((BF g c).drop (j.toNat + 1)).count p : Nat) : Int) := fun p hp => by
     rw [Mh hql]
     have hp0 := hp.1
     have hq0 := hqr.1
     by_cases e : p = q
     ·subst e
      rw [if_pos rfl, hdz]
      rfl
     ·rw [if_neg (by omega), hV.cnt p hp, hdr, List.count_cons_of_ne (fun h => e h.symm)]
    have hgo : ∀ p, inR g p → p ≠ q → (ch.set q.toNat ((Dx g (Ha g (out.take (k.toNat + 1))) q : Nat) : Int)).getD p.toNat 0 = ch.getD p.toNat 0 := fun p hp e => by
     rw [Mh hql]
     have hp0 := hp.1
     have hq0 := hqr.1
     rw [if_neg (by omega)]
    have hkl := hV.kl
    have hqp : ∀ c', inR g c' → Dx g (Ha g (out.take (k.toNat + 1))) q = 0 → q ∈ BF g c' → c' ∈ out' := fun c' hc' hz hq => by
     by_cases e : c' ∈ out.take (k.toNat + 1)
     ·rw [← hV.pre] at e
      exact List.mem_of_mem_take e
     ·exact absurd hq (Kp.1 hz c' (OI.2 ⟨hc', e⟩))
    generalize hch : ch.set q.toNat ((Dx g (Ha g (out.take (k.toNat + 1))) q : Nat) : Int) = ch' at *
    refine Ai.mid (fun d => Up4 g c (out.take (k.toNat + 1)) d.1 d.2 k.toNat (j.toNat + 1)) ⟨⟨j0, hj⟩, hj2, ⟨hqr.1, hqlt⟩, hql, ⟨hqr.1, hqlt⟩, hql, ⟨hqr.1, by rw [hls]; exact hqlt⟩, by rw [hls]; exact hql, ?_⟩ ?_
    ·refine Ai.mid (fun d => Up4 g c (out.take (k.toNat + 1)) ch' d k.toNat (j.toNat + 1)) ⟨fun hz => ⟨by simp only [List.length_cons, List.length_nil]; omega, ?_⟩, fun hz => ?_⟩ fun _ h => h
     ·have hz : Dx g (Ha g (out.take (k.toNat + 1))) q = 0 := by
       have : ((Dx g (Ha g (out.take (k.toNat + 1))) q : Nat) : Int) = 0 := beq_iff_eq.1 hz
       omega
      refine ⟨by rw [hls]; exact hV.len, hcnt, fun p hp => ?_, fun p hp => ?_, ?_, fun i hi c' hc' hp => ?_, ?_, by rw [List.length_append]; omega⟩
      ·rw [List.mem_append, List.mem_singleton]
       by_cases e : p = q
       ·subst e
        exact ⟨fun _ => by rw [hgs, hz]; rfl, fun _ => .inr rfl⟩
       ·rw [hgo p hp e, ← hV.mem p hp]
        exact ⟨fun h => h.resolve_right e, .inl⟩
      ·rcases List.mem_append.1 hp with hp | hp
       ·exact hV.rn p hp
       ·rw [List.mem_singleton.1 hp]; exact hqr
      ·rw [List.nodup_append]
       refine ⟨hV.nd, by simp, fun a ha b hb e => ?_⟩
       rw [List.mem_singleton] at hb
       exact hqno (by rw [← hb, ← e]; exact ha)
      ·by_cases e : i < out'.length
       ·rw [Nr e] at hp
        rw [List.take_append_of_le_length (by omega)]
        exact hV.ord i e c' hc' hp
       ·rw [List.length_append] at hi
        simp only [List.length_cons, List.length_nil] at hi
        obtain rfl : i = out'.length := by omega
        rw [Pu] at hp
        rw [List.take_append_of_le_length (Nat.le_refl _), List.take_length]
        exact hqp c' hc' hz hp
      ·rw [List.take_append_of_le_length (by omega)]
       exact hV.pre
     ·have hz : ((Dx g (Ha g (out.take (k.toNat + 1))) q : Nat) : Int) ≠ 0 := by simpa using hz
      refine ⟨by rw [hls]; exact hV.len, hcnt, fun p hp => ?_, hV.rn, hV.nd, hV.ord, hV.pre, hV.kl⟩
      by_cases e : p = q
      ·subst e
       exact ⟨fun h => absurd h hqno, fun h => absurd (by rw [hgs] at h; exact h) hz⟩
      ·rw [hgo p hp e]
       exact hV.mem p hp
    ·rintro ⟨ch2, o⟩ hq
     rw [w64 (by omega) (by omega)]
     exact ⟨⟨⟨by omega, by omega⟩, by rw [show (j + 1).toNat = j.toNat + 1 by omega]; exact hq⟩, by omega⟩
   ·have hj : ¬ j < (BF g c).length := of_decide_eq_false hj
    refine ⟨hV.len, fun p hp => ?_, hV.mem, hV.rn, hV.nd, hV.ord, hV.kl⟩
    rw [hV.cnt p hp, List.drop_of_length_le (by omega), hV.pre]
    rfl
  ·rw [w64 (by omega) (by omega)]
   exact ⟨⟨by omega, by rw [show (k + 1).toNat = k.toNat + 1 by omega]; exact hq⟩, by omega⟩
 ·have hk := of_decide_eq_false hk
  refine ⟨hU.nd, hU.rn, hU.ord, fun p hp hpo => ?_⟩
  have h1 : ch.getD p.toNat 0 ≠ 0 := fun h => hpo ((hU.mem p hp).2 h)
  rw [hU.cnt p hp, List.take_of_length_le (by omega)] at h1
  have h2 : ¬ Dx g (Ha g out) p = 0 := by omega
  rw [Kp] at h2
  by_cases e : ∃ c, inR g c ∧ c ∉ out ∧ p ∈ BF g c
  ·exact e
  ·exact absurd (fun c hc hpc => e ⟨c, (OI.1 hc).1, (OI.1 hc).2, hpc⟩) h2
end Go.VS

/- Graphs: the document's check and the program's. -/
set_option linter.unusedVariables false
set_option linter.unusedSimpArgs false
namespace Go.VS
variable {P : Pg}
def Ia (g : List Aq) : Prop := g.length ≤ 300 ∧ ∀ c ∈ g, c.1.length ≤ 32
def UY (n : Nat) (l : List Int) (j : Nat) : Prop := (0 ≤ l.getD j 0 ∧ l.getD j 0 < (n : Int)) ∧ l.getD j 0 ∉ l.take j
def UZ (n : Nat) (l : List Int) : Prop := ∀ j, j < l.length → UY n l j
def HN (g : List Aq) : Prop := ∀ c ∈ g, UZ g.length c.1
def Oe (g : List Aq) : Prop := ∀ c ∈ g, 0 ≤ c.2.1 ∧ c.2.1 ≤ 2147483647
def HF : List Aq → Int
 | [] => 0
 | c :: g => if Ex c.2.2 ≠ 0 then Ex c.2.2 else HF g
def DF (g : List Aq) (e : Int) : Prop := (¬Ia g → e = 1) ∧ (Ia g → ¬HN g → e = 230) ∧ (Ia g → HN g → L8 g → e = 231) ∧ (Ia g → HN g → ¬L8 g → ¬Oe g → e = 3) ∧ (Ia g → HN g → ¬L8 g → Oe g → e = HF g)
theorem IE {g : List Aq} {e d : Int} (h : DF g e) (k : DF g d) : e = d := by
 by_cases h1 : Ia g
 ·by_cases h2 : HN g
  ·by_cases h3 : L8 g
   ·rw [h.2.2.1 h1 h2 h3, k.2.2.1 h1 h2 h3]
   ·by_cases h4 : Oe g
    ·rw [h.2.2.2.2 h1 h2 h3 h4, k.2.2.2.2 h1 h2 h3 h4]
    ·rw [h.2.2.2.1 h1 h2 h3 h4, k.2.2.2.1 h1 h2 h3 h4]
  ·rw [h.2.1 h1 h2, k.2.1 h1 h2]
 ·rw [h.1 h1, k.1 h1]
theorem AcD {g : List Aq} (h : ¬Ia g) : DF g 1 := ⟨fun _ => rfl, fun k => absurd k h, fun k => absurd k h, fun k => absurd k h, fun k => absurd k h⟩
theorem AcE {g : List Aq} (k : Ia g) (h : ¬HN g) : DF g 230 := ⟨fun h => absurd k h, fun _ _ => rfl, fun _ k => absurd k h, fun _ k => absurd k h, fun _ k => absurd k h⟩
theorem AcF {g : List Aq} (k : Ia g) (k2 : HN g) (h : L8 g) : DF g 231 := ⟨fun h => absurd k h, fun _ h => absurd k2 h, fun _ _ _ => rfl, fun _ _ k => absurd h k, fun _ _ k => absurd h k⟩
theorem AcG {g : List Aq} (k : Ia g) (k2 : HN g) (h : ¬L8 g) (h4 : ¬Oe g) : DF g 3 := ⟨fun h => absurd k h, fun _ h => absurd k2 h, fun _ _ k => absurd k h, fun _ _ _ _ => rfl, fun _ _ _ k => absurd k h4⟩
theorem SB {g : List Aq} (k : Ia g) (k2 : HN g) (h : ¬L8 g) (h4 : Oe g) {e : Int} (he : e = HF g) : DF g e := ⟨fun h => absurd k h, fun _ h => absurd k2 h, fun _ _ k => absurd k h, fun _ _ _ k => absurd h4 k, fun _ _ _ _ => he⟩
theorem EM {g : List Aq} {i : Nat} (hi : i < g.length) : g.getD i ([], (0, [])) ∈ g := BK hi
theorem Aac {g : List Aq} {i j : Nat} (hi : i < g.length) (hj : j < (g.getD i ([], (0, []))).1.length) (h : ¬UY g.length (g.getD i ([], (0, []))).1 j) : ¬HN g := fun k => h (k _ (EM hi) j hj)
theorem El {α : Type} {l : List α} {d : α} {p : α → Prop} (h : ∀ j, j < l.length → p (l.getD j d)) : ∀ x ∈ l, p x := by
 intro x hx
 obtain ⟨j, hj⟩ := List.getElem?_of_mem hx
 have hl : j < l.length := (List.getElem?_eq_some_iff.1 hj).1
 have := h j hl
 rw [List.getD_eq_getElem?_getD, hj, Option.getD_some] at this
 exact this
theorem Fq {g : List Aq} (h : HN g) : Vl g := by
 intro c hc p hp
 obtain ⟨j, hj⟩ := List.getElem?_of_mem hp
 have hl : j < (BF g c).length := (List.getElem?_eq_some_iff.1 hj).1
 have := (h _ (EM (g := g) (i := c.toNat) (by have := hc.1; have := hc.2; omega)) j hl).1
 have e : (BF g c).getD j 0 = p := by rw [List.getD_eq_getElem?_getD, hj, Option.getD_some]
 have this : 0 ≤ (BF g c).getD j 0 ∧ (BF g c).getD j 0 < (g.length : Int) := this
 rw [e] at this
 exact this
theorem AbJ {g : List Aq} (h : HN g) : ndG g := by
 intro c hc
 have hr : UZ g.length (BF g c) := h _ (EM (g := g) (i := c.toNat) (by have := hc.1; have := hc.2; omega))
 rw [List.nodup_iff_pairwise_ne, List.pairwise_iff_getElem]
 intro i j hi hj hij e
 refine (hr j hj).2 ?_
 rw [List.getD_eq_getElem?_getD, List.getElem?_eq_getElem hj, Option.getD_some, ← e]
 refine List.mem_of_getElem? (i := i) ?_
 rw [List.getElem?_take_of_lt hij, List.getElem?_eq_getElem hi]
theorem Mr {g : List Aq} (h : Ia g) : ∀ c, inR g c → (BF g c).length ≤ 1000000 := fun c hc => by
 have := h.2 _ (EM (g := g) (i := c.toNat) (by have := hc.1; have := hc.2; omega))
 have : (BF g c).length ≤ 32 := this
 omega
theorem WJ {g : List Aq} {i : Nat} (hi : i < g.length) : HF (g.drop i) = if Ex (g.getD i ([], (0, []))).2.2 ≠ 0 then Ex (g.getD i ([], (0, []))).2.2 else HF (g.drop (i + 1)) := by
 rw [List.drop_eq_getElem_cons hi, List.getD_eq_getElem?_getD, List.getElem?_eq_getElem hi, Option.getD_some]
 rfl
theorem Xp (x : Int) (n : Nat) : (cond (decide (x < 0)) true (decide (x ≥ (n : Int)))) = false ↔ (0 ≤ x ∧ x < (n : Int)) := by
 rw [Bool.cond_eq_ite]
 by_cases h : x < 0
 ·rw [if_pos (decide_eq_true h)]
  exact ⟨fun k => (by cases k), fun k => absurd k.1 (by omega)⟩
 ·rw [if_neg (by simpa using h)]
  exact ⟨fun k => (by have := of_decide_eq_false k; omega), fun k => decide_eq_false (by omega)⟩
theorem Xv (x : Int) : (cond (decide (x < (0 : Int))) true (decide (x > (2147483647 : Int)))) = false ↔ (0 ≤ x ∧ x ≤ 2147483647) := by
 rw [Bool.cond_eq_ite]
 by_cases h : x < 0
 ·rw [if_pos (decide_eq_true h)]
  exact ⟨fun k => (by cases k), fun k => absurd k.1 (by omega)⟩
 ·rw [if_neg (by simpa using h)]
  exact ⟨fun k => (by have := of_decide_eq_false k; omega), fun k => decide_eq_false (by omega)⟩
def RW (P : Pg) : Prop := ∀ x : List Int × Int, x.1.length ≤ 1000000 → Fn P "slices.Index[[]int,int]" Bp x fun (d : Int) _ => decide (d ≥ 0) = true ↔ x.2 ∈ x.1
theorem AbT (h : Has P C6) : RW P := by
 rintro ⟨l, v⟩ hl
 dsimp only at hl
 refine H8 h ?_
 unfold Fc
 dsimp only
 refine Ai.mid (fun _ => v ∉ l) ?_ fun _ h => ⟨fun k => absurd (of_decide_eq_true k) (by omega), fun k => absurd k h⟩
 refine Bl.of (fun q => (0 ≤ q.2 ∧ q.2 ≤ l.length) ∧ ∀ j, j < q.2.toNat → l.getD j 0 ≠ v) (fun q => (l.length - q.2).toNat) ⟨⟨Int.le_refl _, by dsimp only; omega⟩, fun j hj => absurd hj (by simp)⟩ ?_
 rintro ⟨q, i⟩ ⟨⟨i0, i1⟩, hq⟩
 dsimp only at i0 i1 hq ⊢
 refine ⟨fun hi => ?_, fun hi => ?_⟩
 ·have hi := of_decide_eq_true hi
  have hi2 : i.toNat < l.length := by omega
  refine Ai.mid (fun _ => l.getD i.toNat 0 ≠ v) ⟨⟨i0, hi⟩, hi2, fun hb => ?_, fun hb => ?_⟩ fun _ hn => ?_
  ·have e : v = l.getD i.toNat 0 := by simpa using hb
   exact ⟨fun _ => e ▸ BK hi2, fun _ => decide_eq_true (by omega)⟩
  ·exact fun e => by rw [e] at hb; simp at hb
  ·rw [w64 (by omega) (by omega)]
   refine ⟨⟨⟨by omega, by omega⟩, fun j hj => ?_⟩, by omega⟩
   by_cases hji : j = i.toNat
   ·subst hji; exact hn
   ·exact hq j (by omega)
 ·have hi := of_decide_eq_false hi
  exact fun hv => El (p := fun x => x ≠ v) (d := 0) (fun j hj => hq j (by omega)) v hv rfl
def ON (P : Pg) : Prop := ∀ x : List Int × Int, x.1.length ≤ 1000000 → Fn P "slices.Contains[[]int,int]" Bg x fun (d : Bool) _ => d = true ↔ x.2 ∈ x.1
theorem Aal (h : Has P Cy) (hI : RW P) : ON P := by
 intro x hx
 refine G1 h ?_
 unfold ED
 exact (hI x hx).to fun (d : Int) _ hd => hd
def Vs (P : Pg) : Prop := ∀ l : List Aq, l.length ≤ 1000000 → Fn P zS3 Ap (l, ()) fun (d : Int) _ => decide (d ≥ 0) = false ↔ ∀ c ∈ l, c.1.length ≤ 32
theorem Ac4 (h : Has P AO) (h1 : Has P EU) : Vs P := by
 intro l hl
 refine CO h ?_
 unfold BJ
 dsimp only
 refine Ai.mid (fun _ => ∀ c ∈ l, c.1.length ≤ 32) ?_ fun _ h => ⟨fun _ => h, fun _ => rfl⟩
 refine Bl.of (fun q => (0 ≤ q.2 ∧ q.2 ≤ l.length) ∧ ∀ j, j < q.2.toNat → (l.getD j ([], (0, []))).1.length ≤ 32) (fun q => (l.length - q.2).toNat) ⟨⟨Int.le_refl _, by dsimp only; omega⟩, fun j hj => absurd hj (by simp)⟩ ?_
 rintro ⟨q, i⟩ ⟨⟨i0, i1⟩, hq⟩
 dsimp only at i0 i1 hq ⊢
 refine ⟨fun hi => ?_, fun hi => ?_⟩
 ·have hi := of_decide_eq_true hi
  have hi2 : i.toNat < l.length := by omega
  refine Ai.mid (fun _ => (l.getD i.toNat ([], (0, []))).1.length ≤ 32) ⟨⟨i0, hi⟩, hi2, Np h1 ⟨fun hb => ?_, fun hb => ?_⟩⟩ fun _ hn => ?_
  ·have hb := of_decide_eq_true hb
   have hb : (((l.getD i.toNat ([], (0, []))).1.length : Nat) : Int) > 32 := hb
   exact ⟨fun k => absurd (of_decide_eq_false k) (by omega), fun k => absurd (k _ (EM hi2)) (by omega)⟩
  ·have hb := of_decide_eq_false hb
   have hb : ¬((((l.getD i.toNat ([], (0, []))).1.length : Nat) : Int) > 32) := hb
   show (l.getD i.toNat ([], (0, []))).1.length ≤ 32
   omega
  ·rw [w64 (by omega) (by omega)]
   refine ⟨⟨⟨by omega, by omega⟩, fun j hj => ?_⟩, by omega⟩
   by_cases hji : j = i.toNat
   ·subst hji; exact hn
   ·exact hq j (by omega)
 ·have hi := of_decide_eq_false hi
  exact El (d := ([], (0, []))) fun j hj => hq j (by omega)
def Vu (P : Pg) : Prop := ∀ l : List Aq, l.length ≤ 1000000 → Fn P zS4 Al (l, ()) fun (d : Bool) _ => d = false ↔ ∀ c ∈ l, c.1.length ≤ 32
theorem Ac6 (h : Has P AK) (hI : Vs P) : Vu P := by
 intro l hl
 refine CA h ?_
 unfold Bz
 exact (hI l hl).to fun (d : Int) _ hd => hd
def Lc (P : Pg) : Prop := ∀ l : List Aq, Fn P AaH Da l fun (d : Bool) _ => d = true ↔ Ia l
theorem Wy (h : Has P FP) (hX : Vu P) : Lc P := by
 intro l
 refine Pj h ?_
 unfold K1
 refine Ai.mid (fun d => l.length ≤ 300 → (d = false ↔ ∀ c ∈ l, c.1.length ≤ 32)) ⟨fun hc => ?_, fun hc hl => absurd (of_decide_eq_false hc) (by omega), trivial⟩ fun d hd => ?_
 ·have hc := of_decide_eq_true hc
  exact (hX l (by omega)).to fun (d : Bool) _ hd _ => hd
 ·by_cases hl : l.length ≤ 300
  ·have hd := hd hl
   rw [decide_eq_true (show ((l.length : Nat) : Int) ≤ 300 by omega)]
   unfold Ia
   cases d with
   | false => exact ⟨fun _ => ⟨hl, hd.1 rfl⟩, fun _ => rfl⟩
   | true => exact ⟨fun k => (by cases k), fun k => (by have := hd.2 k.2; cases this)⟩
  ·rw [decide_eq_false (show ¬((l.length : Nat) : Int) ≤ 300 by omega)]
   exact ⟨fun k => (by cases k), fun k => absurd k.1 hl⟩
def Vt (P : Pg) : Prop := ∀ l : List Aq, l.length ≤ 1000000 → Fn P zS3 Av (l, ()) fun (d : Int) _ => decide (d ≥ 0) = false ↔ Oe l
theorem Ac5 (h : Has P AY) (h1 : Has P FO) : Vt P := by
 intro l hl
 refine CY h ?_
 unfold BO
 dsimp only
 refine Ai.mid (fun _ => Oe l) ?_ fun _ h => ⟨fun _ => h, fun _ => rfl⟩
 refine Bl.of (fun q => (0 ≤ q.2 ∧ q.2 ≤ l.length) ∧ ∀ j, j < q.2.toNat → 0 ≤ (l.getD j ([], (0, []))).2.1 ∧ (l.getD j ([], (0, []))).2.1 ≤ 2147483647) (fun q => (l.length - q.2).toNat) ⟨⟨Int.le_refl _, by dsimp only; omega⟩, fun j hj => absurd hj (by simp)⟩ ?_
 rintro ⟨q, i⟩ ⟨⟨i0, i1⟩, hq⟩
 dsimp only at i0 i1 hq ⊢
 refine ⟨fun hi => ?_, fun hi => ?_⟩
 ·have hi := of_decide_eq_true hi
  have hi2 : i.toNat < l.length := by omega
  refine Ai.mid (fun _ => 0 ≤ (l.getD i.toNat ([], (0, []))).2.1 ∧ (l.getD i.toNat ([], (0, []))).2.1 ≤ 2147483647) ⟨⟨i0, hi⟩, hi2, Ph h1 ⟨fun hb => ?_, fun hb => ?_⟩⟩ fun _ hn => ?_
  ·refine ⟨fun k => absurd (of_decide_eq_false k) (by omega), fun k => ?_⟩
   have := (Xv _).2 (k _ (EM hi2))
   exact absurd (this.symm.trans hb) (by simp)
  ·exact (Xv _).1 hb
  ·rw [w64 (by omega) (by omega)]
   refine ⟨⟨⟨by omega, by omega⟩, fun j hj => ?_⟩, by omega⟩
   by_cases hji : j = i.toNat
   ·subst hji; exact hn
   ·exact hq j (by omega)
 ·have hi := of_decide_eq_false hi
  exact El (d := ([], (0, []))) (p := fun c => 0 ≤ c.2.1 ∧ c.2.1 ≤ 2147483647) fun j hj => hq j (by omega)
def Vv (P : Pg) : Prop := ∀ l : List Aq, l.length ≤ 1000000 → Fn P zS4 Ao (l, ()) fun (d : Bool) _ => d = false ↔ Oe l
theorem Ac7 (h : Has P AN) (hI : Vt P) : Vv P := by
 intro l hl
 refine CG h ?_
 unfold BD
 exact (hI l hl).to fun (d : Int) _ hd => hd
def Lf (P : Pg) : Prop := ∀ g : List Aq, Ia g → Fn P AaI Db g fun (d : Bool) _ => d = true ↔ HN g
theorem WC (h : Has P FQ) (hC : ON P) : Lf P := by
 intro g hlim
 refine Pk h ?_
 unfold K2
 have hg := hlim.1
 refine Ai.mid (fun _ => HN g) ?_ fun _ h => ⟨fun _ => h, fun _ => rfl⟩
 refine Bl.of (fun q => (0 ≤ q.2 ∧ q.2 ≤ g.length) ∧ ∀ j, j < q.2.toNat → UZ g.length (g.getD j ([], (0, []))).1) (fun q => (g.length - q.2).toNat) ⟨⟨Int.le_refl _, by dsimp only; omega⟩, fun j hj => absurd hj (by simp)⟩ ?_
 rintro ⟨q, i⟩ ⟨⟨i0, i1⟩, hq⟩
 dsimp only at i0 i1 hq ⊢
 refine ⟨fun hi => ?_, fun hi => ?_⟩
 ·have hi := of_decide_eq_true hi
  have hi2 : i.toNat < g.length := by omega
  have hl : (g.getD i.toNat ([], (0, []))).1.length ≤ 32 := hlim.2 _ (EM hi2)
  have hbad : ∀ j, j < (g.getD i.toNat ([], (0, []))).1.length → ¬UY g.length (g.getD i.toNat ([], (0, []))).1 j → ¬HN g := fun j hj => Aac hi2 hj
  refine Ai.mid (fun _ => UZ g.length (g.getD i.toNat ([], (0, []))).1) ⟨⟨i0, hi⟩, hi2, ?_⟩ fun _ hn => ?_
  ·show Ai (D := Bool) _ _
   have ez : g.getD i.toNat Ak = g.getD i.toNat ([], (0, [])) := rfl
   rw [ez]
   generalize (g.getD i.toNat ([], (0, []))).1 = l at hl hbad ⊢
   refine Ai.mid (fun _ => UZ g.length l) ?_ fun _ h => h
   refine Bl.of (fun q => (0 ≤ q.2 ∧ q.2 ≤ l.length) ∧ ∀ j, j < q.2.toNat → UY g.length l j) (fun q => (l.length - q.2).toNat) ⟨⟨Int.le_refl _, by dsimp only; omega⟩, fun j hj => absurd hj (by simp)⟩ ?_
   rintro ⟨r, k⟩ ⟨⟨k0, k1⟩, hk⟩
   dsimp only at k0 k1 hk ⊢
   refine ⟨fun hki => ?_, fun hki => ?_⟩
   ·have hki := of_decide_eq_true hki
    have hk2 : k.toNat < l.length := by omega
    have hou := Xp (l.getD k.toNat 0) g.length
    generalize (cond (decide (l.getD k.toNat 0 < 0)) true (decide (l.getD k.toNat 0 ≥ (g.length : Int)))) = b at hou ⊢
    refine Ai.mid (fun _ => UY g.length l k.toNat) ⟨⟨k0, hki⟩, hk2, fun _ => ⟨k0, by omega⟩, ?_⟩ fun _ hn => ?_
    ·refine Ai.mid (fun d => b = false → (d = true ↔ l.getD k.toNat 0 ∈ l.take k.toNat)) ⟨fun hc => ?_, fun hc h => (by rw [hc] at h; cases h), trivial⟩ fun d hd => ⟨fun hb => ?_, fun hb => ?_⟩
     ·exact (hC (l.take k.toNat, l.getD k.toNat 0) (by rw [List.length_take]; omega)).to fun (d : Bool) _ hd _ => hd
     ·refine ⟨fun k => (by cases k), fun hr => absurd hr (hbad k.toNat hk2 fun ha => ?_)⟩
      have hbf := hou.2 ha.1
      rw [hbf] at hb
      exact ha.2 ((hd hbf).1 hb)
     ·cases b with
      | true => cases hb
      | false => exact ⟨hou.1 rfl, fun hm => (by have := (hd rfl).2 hm; rw [this] at hb; cases hb)⟩
    ·rw [w64 (by omega) (by omega)]
     refine ⟨⟨⟨by omega, by omega⟩, fun j hj => ?_⟩, by omega⟩
     by_cases hji : j = k.toNat
     ·subst hji; exact hn
     ·exact hk j (by omega)
   ·have hki := of_decide_eq_false hki
    exact fun j hj => hk j (by omega)
  ·rw [w64 (by omega) (by omega)]
   refine ⟨⟨⟨by omega, by omega⟩, fun j hj => ?_⟩, by omega⟩
   by_cases hji : j = i.toNat
   ·subst hji; exact hn
   ·exact hq j (by omega)
 ·have hi := of_decide_eq_false hi
  exact El (d := ([], (0, []))) (p := fun c => UZ g.length c.1) fun j hj => hq j (by omega)
def MR (g : List Aq) : Prop := ∀ c ∈ g, ∀ f ∈ c.2.2, f.1.length ≤ 140737488351232 ∧ f.2.length ≤ 140737488351232
def Aee (l : List AA) : Prop := ∀ f ∈ l, f.1.length ≤ 140737488351232 ∧ f.2.length ≤ 140737488351232
def HH (P : Pg) : Prop := ∀ l : List AA, Aee l → Fn P zS2 BQ l fun (d : Int) _ => d = Ex l
theorem QP (h : Has P E7) (hT : Et P) : HH P := by
 intro l hl
 by_cases hn : l.length ≤ 1000000
 ·exact hT l ⟨hn, hl⟩
 ·refine K6 h ?_
  unfold Iw
  refine Ai.mid (fun _ => False) ⟨fun hc => ?_, fun hc => absurd (of_decide_eq_false hc) (by omega)⟩ fun _ hh => hh.elim
  unfold Ex
  rw [if_pos (by omega)]
def Jk (P : Pg) : Prop := ∀ g : List Aq, MR g → Fn P AaM DO g fun (d : Int) _ => DF g d
theorem Va (h : Has P Hs) (hL : Lc P) (hR : Lf P) (hU : M7 P) (hX : Vv P) (hT : HH P) : Jk P := by
 intro g hs
 refine Sg h ?_
 unfold NJ
 refine Ai.mid (fun _ => Ia g ∧ HN g ∧ ¬L8 g ∧ Oe g) ?_ fun d2 hh => ?_
 ·refine (hL g).to ?_
  rintro (d : Bool) _ hd
  have hd : d = true ↔ Ia g := hd
  refine ⟨fun hb => AcD fun k => (by rw [hd.2 k] at hb; cases hb), fun hb => ?_⟩
  have k1 : Ia g := hd.1 (by cases d with | true => rfl | false => cases hb)
  clear hd hb
  refine (hR g k1).to ?_
  rintro (d : Bool) _ hd
  have hd : d = true ↔ HN g := hd
  refine ⟨fun hb => AcE k1 fun k => (by rw [hd.2 k] at hb; cases hb), fun hb => ?_⟩
  have k2 : HN g := hd.1 (by cases d with | true => rfl | false => cases hb)
  clear hd hb
  have hg := k1.1
  refine (hU g (by omega) (Fq k2) (AbJ k2) (Mr k1)).to ?_
  rintro (u : List Int) _ hu
  have hu : UpG g u := hu
  have hcy := Adk (Fq k2) hu
  refine ⟨fun hb => AcF k1 k2 (hcy.1 (by have := of_decide_eq_true hb; omega)), fun hb => ?_⟩
  have k3 : ¬L8 g := fun k => by have := hcy.2 k; have := of_decide_eq_false hb; omega
  refine (hX g (by omega)).to ?_
  rintro (d : Bool) _ hd
  have hd : d = false ↔ Oe g := hd
  exact ⟨fun hb => AcG k1 k2 k3 fun k => (by rw [hd.2 k] at hb; cases hb), fun hb => ⟨k1, k2, k3, hd.1 hb⟩⟩
 ·obtain ⟨k1, k2, k3, k4⟩ := hh
  have hg := k1.1
  refine Ai.mid (fun _ => HF g = 0) ?_ fun _ h => SB k1 k2 k3 k4 h.symm
  refine Bl.of (fun q => (0 ≤ q.2 ∧ q.2 ≤ g.length) ∧ HF g = HF (g.drop q.2.toNat)) (fun q => (g.length - q.2).toNat) ⟨⟨Int.le_refl _, by dsimp only; omega⟩, rfl⟩ ?_
  rintro ⟨q, i⟩ ⟨⟨i0, i1⟩, hq⟩
  dsimp only at i0 i1 hq ⊢
  refine ⟨fun hi => ?_, fun hi => ?_⟩
  ·have hi := of_decide_eq_true hi
   have hi2 : i.toNat < g.length := by omega
   rw [WJ hi2] at hq
   refine Ai.mid (fun _ => Ex (g.getD i.toNat ([], (0, []))).2.2 = 0) ⟨⟨i0, hi⟩, hi2, (hT _ (hs _ (EM hi2))).to ?_⟩ fun _ hn => ?_
   ·rintro (d : Int) _ hd
    have hd : d = Ex (g.getD i.toNat ([], (0, []))).2.2 := hd
    rw [← hd] at hq ⊢
    refine ⟨fun hb => SB k1 k2 k3 k4 ?_, fun hb => by simpa using hb⟩
    rw [hq, if_pos (by simpa using hb)]
   ·rw [if_neg (by simpa using hn)] at hq
    rw [w64 (by omega) (by omega)]
    refine ⟨⟨⟨by omega, by omega⟩, ?_⟩, by omega⟩
    rw [hq, show (i + 1).toNat = i.toNat + 1 by omega]
  ·have hi := of_decide_eq_false hi
   show HF g = 0
   rw [hq, List.drop_of_length_le (by omega)]
   rfl
end Go.VS

/- The document's Deltas. -/
set_option linter.unusedVariables false
set_option linter.unusedSimpArgs false
namespace Go.VS
variable {P : Pg}
end Go.VS
namespace Go.VS
variable {P : Pg}
theorem Ko {l : List AA} (h : Ex l = 0) : JK l := by
 unfold Ex at h
 split at h
 ·cases h
 ·split at h
  ·cases h
  ·split at h
   ·cases h
   ·rename_i h3
    exact (UG l).1 (by simpa using h3)
end Go.VS

/- Blobs and trees made of raw numbers: which they are. -/
set_option linter.unusedVariables false
set_option linter.unusedSimpArgs false
namespace Go.VS
variable {P : Pg}
abbrev Ab0 : List Bs := [([97] : List UInt8), ([98] : List UInt8), ([99] : List UInt8), ([97, 98] : List UInt8), ([98, 97] : List UInt8), ([] : List UInt8), ([97, 97] : List UInt8), ([98, 32, 97] : List UInt8), ([120, 43, 121] : List UInt8), ([92] : List UInt8)]
def N2 (k : Int) : Bs := Ab0.getD (FB k 10).toNat []
theorem Nv (k : Int) : (N2 k).length ≤ 3 := by
 have hr := DV (a := k) (n := 10) (by decide) (by decide)
 unfold N2
 generalize FB k 10 = m at *
 have : m = 0 ∨ m = 1 ∨ m = 2 ∨ m = 3 ∨ m = 4 ∨ m = 5 ∨ m = 6 ∨ m = 7 ∨ m = 8 ∨ m = 9 := by omega
 rcases this with rfl | rfl | rfl | rfl | rfl | rfl | rfl | rfl | rfl | rfl <;> decide
def LM (P : Pg) : Prop := ∀ k : Int, Fn P WN DD k fun (d : Bs) _ => d = N2 k
theorem Aao (h : Has P Iq) (hM : Iu P) : LM P := by
 intro k
 refine TZ h ?_
 unfold OV
 refine hM.at (by decide) (by decide) ?_
 have hr := DV (a := k) (n := 10) (by decide) (by decide)
 exact ⟨⟨by omega, by simp; omega⟩, by simp; omega, rfl⟩
def F5 (raw : List Int) (fr kinds : Int) : Nat → Bs
 | 0 => []
 | k + 1 => (F5 raw fr kinds k ++ N2 (FB (atF raw (fr + 1 + (k : Int))) kinds)) ++ [10]
theorem H4 (raw : List Int) (fr kinds : Int) : ∀ k, (F5 raw fr kinds k).length ≤ 4 * k
 | 0 => Nat.le_refl _
 | k + 1 => by
  have h1 := H4 raw fr kinds k
  have h2 := Nv (FB (atF raw (fr + 1 + (k : Int))) kinds)
  rw [F5, List.length_append, List.length_append]
  simp only [List.length_cons, List.length_nil]
  omega
def QZ (s : Bs) (z : Int) : Bool := cond (cond ((Int.tmod z (4 : Int)) == (0 : Int)) (decide (((List.length s : Nat) : Int) > (1 : Int))) false) (((UInt8.toNat (List.getD s (Int.toNat (IntKind.i64.wrap (((List.length s : Nat) : Int) - (2 : Int)))) 0) : Nat) : Int) != (10 : Int)) false
def LX (raw : List Int) (fr mx kinds : Int) : Bs :=
 if QZ (F5 raw fr kinds (FB (atF raw fr) (mx + 1)).toNat) (atF raw (fr + 90)) = true then (F5 raw fr kinds (FB (atF raw fr) (mx + 1)).toNat).take ((F5 raw fr kinds (FB (atF raw fr) (mx + 1)).toNat).length - 1) else F5 raw fr kinds (FB (atF raw fr) (mx + 1)).toNat
theorem XQ {raw : List Int} {fr mx kinds : Int} (h0 : 0 ≤ mx) (h1 : mx ≤ 100) : (LX raw fr mx kinds).length ≤ 400 := by
 have hr := DV (a := atF raw fr) (n := mx + 1) (by omega) (by omega)
 have h2 := H4 raw fr kinds (FB (atF raw fr) (mx + 1)).toNat
 unfold LX
 split
 ·rw [List.length_take]; omega
 ·omega
def OM (P : Pg) : Prop := ∀ x : List Int × (Int × (Int × Int)), (0 ≤ x.2.1 ∧ x.2.1 ≤ 1000000) → (0 ≤ x.2.2.1 ∧ x.2.2.1 ≤ 100) → (1 ≤ x.2.2.2 ∧ x.2.2.2 ≤ 100000) → Fn P zS7 Dg x fun (d : Bs) _ => d = LX x.1 x.2.1 x.2.2.1 x.2.2.2
theorem Aak (h : Has P Ip) (hA : KV P) (hM : Iu P) (hL : LM P) : OM P := by
 rintro ⟨raw, fr, mx, kinds⟩ ⟨f0, f1⟩ ⟨m0, m1⟩ ⟨k0, k1⟩
 dsimp only at f0 f1 m0 m1 k0 k1
 refine TY h ?_
 unfold OU
 dsimp only
 rw [w64 (n := mx + 1) (by omega) (by omega), w64 (n := fr + 1) (by omega) (by omega), w64 (n := fr + 90) (by omega) (by omega)]
 refine hA.at f0 (hM.at (by omega) (by omega) ?_)
 unfold LX
 have hr := DV (a := atF raw fr) (n := mx + 1) (by omega) (by omega)
 generalize FB (atF raw fr) (mx + 1) = m at hr ⊢
 refine Ai.mid (fun d => d = F5 raw fr kinds m.toNat) ?_ fun d hd => ?_
 ·refine Bl.of (fun q => (0 ≤ q.2 ∧ q.2 ≤ m) ∧ q.1 = F5 raw fr kinds q.2.toNat) (fun q => (m - q.2).toNat) ⟨⟨Int.le_refl _, hr.1⟩, rfl⟩ ?_
  rintro ⟨s, i⟩ ⟨⟨i0, i1⟩, hs⟩
  dsimp only at i0 i1 hs ⊢
  have hsl := H4 raw fr kinds i.toNat
  rw [← hs] at hsl
  refine ⟨fun hi => ?_, fun hi => by have hi := of_decide_eq_false hi; rw [hs, show i = m by omega]⟩
  have hi := of_decide_eq_true hi
  have hnx : F5 raw fr kinds (i.toNat + 1) = (s ++ N2 (FB (atF raw (fr + 1 + i)) kinds)) ++ [10] := by
   rw [F5, ← hs, show ((i.toNat : Nat) : Int) = i by omega]
  have hll := Nv (FB (atF raw (fr + 1 + i)) kinds)
  refine Ai.mid (fun d => d = F5 raw fr kinds (i.toNat + 1)) ?_ fun d hd => ?_
  ·rw [w64 (by omega) (by omega)]
   refine hA.at (by omega) (hM.at k0 (by omega) ((hL _).to ?_))
   rintro (ln : Bs) _ hln
   have hln : ln = _ := hln
   subst hln
   refine ⟨by omega, by rw [List.length_append]; simp only [List.length_cons, List.length_nil]; omega, hnx.symm⟩
  ·rw [w64 (by omega) (by omega)]
   exact ⟨⟨⟨by omega, by omega⟩, by rw [hd, show (i + 1).toNat = i.toNat + 1 by omega]⟩, by omega⟩
 ·subst hd
  have hbl := H4 raw fr kinds m.toNat
  generalize F5 raw fr kinds m.toNat = d at hbl ⊢
  refine hA.at (by omega) ⟨by decide, fun hc => ?_, ?_⟩
  ·rw [Bool.cond_eq_ite] at hc
   split at hc
   ·have h1 := of_decide_eq_true hc
    rw [w64 (by omega) (by omega)]
    omega
   ·cases hc
  ·refine Ai.mid (fun e => e = if QZ d (atF raw (fr + 90)) = true then d.take (d.length - 1) else d) ⟨fun hc => ?_, fun hc => ?_⟩ fun _ h => h
   ·have h1 : 1 < d.length := by
     rw [Bool.cond_eq_ite] at hc
     split at hc
     ·rename_i h2
      rw [Bool.cond_eq_ite] at h2
      split at h2
      ·have := of_decide_eq_true h2; omega
      ·cases h2
     ·cases hc
    rw [w64 (by omega) (by omega)]
    refine ⟨⟨by omega, by omega⟩, ?_⟩
    have hc : QZ d (atF raw (fr + 90)) = true := by unfold QZ; exact hc
    rw [if_pos hc, show (((d.length : Nat) : Int) - 1).toNat = d.length - 1 by omega]
   ·have hc : QZ d (atF raw (fr + 90)) = false := by unfold QZ; exact hc
    rw [if_neg (by rw [hc]; exact Bool.false_ne_true)]
theorem OH : ∀ (s acc : Bs), (lnN acc s).length ≤ s.length
 | [], acc => by rw [lnN]; exact Nat.le_refl _
 | b :: r, acc => by
  rw [lnN]
  split
  ·have := OH r []; simp only [List.length_cons]; omega
  ·have := OH r (acc ++ [b]); simp only [List.length_cons]; omega
theorem VO {s : Bs} (h : s.length ≤ 4000) : Jg s = 0 := by
 have h1 : (lnF s).length ≤ s.length := OH s []
 unfold Jg
 rw [if_neg (by omega)]
abbrev Bu : List Bs := [([97] : List UInt8), ([98, 47, 120] : List UInt8), ([98, 47, 121] : List UInt8), ([99, 32, 100] : List UInt8)]
def X0 (raw : List Int) (fr lines : Int) (i : Nat) : Option AA := if atF raw (fr + (i : Int)) % 3 > 0 then some (Bu.getD i [], LX raw (fr + 10 + 20 * (i : Int)) lines 4) else none
def Og (raw : List Int) (fr lines : Int) (k : Nat) : List AA := (List.range k).filterMap (X0 raw fr lines)
def GY (raw : List Int) (fr lines : Int) : List AA := Og raw fr lines 4
theorem X1 (raw : List Int) (fr lines : Int) (k : Nat) : Og raw fr lines (k + 1) = Og raw fr lines k ++ (X0 raw fr lines k).toList := by
 unfold Og
 rw [List.range_succ, List.filterMap_append]
 cases h : X0 raw fr lines k with
 | none => simp [h]
 | some v => simp [h]
def Ab8 (l : List AA) : Prop := ∃ q : Nat → Option Bs, (∀ i v, q i = some v → v.length ≤ 4000) ∧ l = (List.range 4).filterMap fun i => (q i).map fun v => (Bu.getD i [], v)
theorem TO {raw : List Int} {fr lines : Int} (h0 : 0 ≤ lines) (h1 : lines ≤ 100) : Ab8 (GY raw fr lines) := by
 refine ⟨fun i => if atF raw (fr + (i : Int)) % 3 > 0 then some (LX raw (fr + 10 + 20 * (i : Int)) lines 4) else none, fun i v hv => ?_, ?_⟩
 ·dsimp only at hv
  split at hv
  ·cases hv; have := XQ (raw := raw) (fr := fr + 10 + 20 * (i : Int)) (kinds := 4) h0 h1; omega
  ·cases hv
 ·unfold GY Og
  congr 1
  funext i
  unfold X0
  dsimp only
  split <;> rfl
theorem Vh {l : List AA} (h : Ab8 l) : ∃ a b c d : Option Bs, (∀ v, a = some v ∨ b = some v ∨ c = some v ∨ d = some v → v.length ≤ 4000) ∧ l = (a.map fun v => (Bu.getD 0 [], v)).toList ++ ((b.map fun v => (Bu.getD 1 [], v)).toList ++ ((c.map fun v => (Bu.getD 2 [], v)).toList ++ (d.map fun v => (Bu.getD 3 [], v)).toList)) := by
 obtain ⟨q, hq, rfl⟩ := h
 refine ⟨q 0, q 1, q 2, q 3, fun v hv => ?_, ?_⟩
 ·rcases hv with h | h | h | h
  ·exact hq _ _ h
  ·exact hq _ _ h
  ·exact hq _ _ h
  ·exact hq _ _ h
 ·show (List.range 4).filterMap _ = _
  rw [show List.range 4 = [0, 1, 2, 3] from rfl]
  cases h0 : q 0 <;> cases h1 : q 1 <;> cases h2 : q 2 <;> cases h3 : q 3 <;> simp [h0, h1, h2, h3, List.filterMap]
end Go.VS
