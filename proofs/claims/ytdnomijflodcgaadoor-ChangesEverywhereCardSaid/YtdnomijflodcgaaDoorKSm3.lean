import Derived.Test.YtdnomijflodcgaaDoorKSm2
import Derived.Test.YtdnomijflodcgaaDoorKSm0
import Derived.Test.YtdnomijflodcgaaDoorKSm1
import Derived.Lib.ItoaNum
/- ChangesRefuses. -/
set_option linter.unusedVariables false
set_option linter.unusedSimpArgs false
namespace Go.VS
variable {P : Pg}
def gA : List Aq := [([], (0, [([120], [97])]))]
theorem Adx {c : Int} (h : inR gA c) : c = 0 := by
 have h1 := h.1
 have h2 : c < 1 := h.2
 omega
theorem AcA : ∀ {c : Int}, inR gA c → BF gA c = [] := fun {c} h => by rw [Adx h]; rfl
theorem ZJ : DF gA 0 := by
 have hm : ∀ c ∈ gA, c = ([], (0, [([120], [97])])) := fun c hc => List.mem_singleton.1 hc
 refine SB ⟨by decide, fun c hc => ?_⟩ (fun c hc j hj => ?_) ?_ (fun c hc => ?_) ?_
 ·rw [hm c hc]; decide
 ·rw [hm c hc] at hj; exact absurd hj (by simp)
 ·rintro ⟨c, hc, p, hp, _⟩
  rw [AcA hc] at hp
  cases hp
 ·rw [hm c hc]; decide
 ·have : Ex [(([120] : List UInt8), ([97] : List UInt8))] = 0 := by decide
  show 0 = if Ex [(([120] : List UInt8), ([97] : List UInt8))] ≠ 0 then _ else _
  rw [if_neg (by simpa using this)]
  rfl
theorem ZK : MR gA := fun c hc f hf => by
 have hc : c = ([], (0, [([120], [97])])) := List.mem_singleton.1 hc
 rw [hc] at hf
 have hf : f = ([120], [97]) := List.mem_singleton.1 hf
 rw [hf]
 decide
theorem Abg : Gb [] [(([120] : List UInt8), ([97] : List UInt8))] [([120], 1)] := by
 refine NZ (Ko (by decide)) (Ko (by decide)) ?_ (List.pairwise_singleton _ _)
 exact List.Perm.of_eq (by decide)
def GO (P : Pg) : Prop := Fn P Vm Cb () fun (d : Bool) _ => d = true
theorem WD (h : Has P FR) (hL : Ki P) (hP : OR P) (hG : GN P) : GO P := by
 refine Pl h ?_
 unfold K3
 have h0 : inR gA 0 := ⟨Int.le_refl _, by decide⟩
 refine (hL (gA, 0) ZK ZJ h0).to ?_
 rintro (d : List (List AE) × Int) _ hd
 obtain ⟨l, e⟩ := d
 have hd : Oc gA 0 l ∧ e = 0 := hd
 obtain ⟨⟨hl, hk⟩, rfl⟩ := hd
 have hl : l.length = 1 := hl
 have hd0 : l.getD 0 [] = [(([120] : List UInt8), (1 : Int))] := by
  obtain ⟨e, he⟩ := hk 0 (by omega)
  have he : M0 [] [(([120] : List UInt8), ([97] : List UInt8))] (l.getD 0 [], e) := he
  have h1 : e = Gj [] [(([120] : List UInt8), ([97] : List UInt8))] := he.1
  have h2 : Gj [] [(([120] : List UInt8), ([97] : List UInt8))] = 0 := by decide
  exact N0 (he.2.2 (h1.trans h2)) Abg
 refine (hP (gA, (0, (0, [120]))) ZK ZJ h0 (Int.le_refl _) (by decide)).to ?_
 rintro (d : Bs × (Bs × Int)) _ hd
 have hd : d = (([] : List UInt8), (([97] : List UInt8), (0 : Int))) := hd.trans (by decide)
 subst hd
 dsimp only
 rw [hl]
 refine ⟨fun _ => ⟨by decide, by decide, by decide, ?_⟩, fun h => absurd h (by decide)⟩
 have h9 : (l.getD 0 []).length ≤ 1000000000 := by rw [hd0]; decide
 refine (hG (l.getD 0 [], [([120], 1)]) h9).to ?_
 rintro (d : Bool) _ hd
 have hd : d = decide (l.getD 0 [] = [(([120] : List UInt8), (1 : Int))]) := hd
 rw [hd0] at hd
 have hd : d = true := hd.trans (by decide)
 subst hd
 rfl
theorem GO.at (h : GO P) {K : Bool → Unit → Prop} (hk : K true ()) : Fn P Vm Cb () K :=
 Fn.to h fun (d : Bool) _ hd => by
  have hd : d = true := hd
  subst hd
  exact hk
end Go.VS

/- changes: pairs, and the paths that differ from all parents. -/
set_option linter.unusedVariables false
set_option linter.unusedSimpArgs false
namespace Go.VS
variable {P : Pg}
def Jh (d : List AE) (p : Bs) : Bool := d.any fun u => u.1 == p
def FA (L : List (List AE)) (p : Bs) : Bool := L.all fun d => Jh d p
def H7 (L : List (List AE)) (ds : List AE) : List Bs := (ds.filter fun t => FA L t.1).map (·.1)
def Jy (L : List (List AE)) : List Bs := H7 L (L.getD 0 [])
def Vq (g : List Aq) (c : Int) (d : List Bs × Int) : Prop := ∃ e, DF g e ∧ (e ≠ 0 → d = ([], e)) ∧ (e = 0 → ¬inR g c → d = ([], 5)) ∧ (e = 0 → inR g c → ∃ L, Oc g c L ∧ d = (Jy L, 0))
end Go.VS

/- changes: the document's paths that differ from all parents. -/
set_option linter.unusedVariables false
set_option linter.unusedSimpArgs false
namespace Go.VS
variable {P : Pg}
theorem QU (L : List (List AE)) (p : Bs) {k : Nat} (h : k < L.length) : FA (L.take (k + 1)) p = (FA (L.take k) p && Jh (L.getD k []) p) := by
 unfold FA
 rw [Ke (d := []) h, List.all_append]
 simp
theorem PQ {g : List Aq} {c : Int} (h0 : DF g 0) (hs : MR g) (hc : inR g c) {L : List (List AE)} (hO : Oc g c L) : 0 < L.length ∧ L.length ≤ 1000000 ∧ ∀ k, k < L.length → (L.getD k []).length ≤ 400 := by
 have k0 := Ep h0
 have htl := Qp (Mr k0.1 c hc)
 have hl := hO.1
 refine ⟨by omega, by omega, fun k hk => ?_⟩
 obtain ⟨e, he⟩ := hO.2 k hk
 have hT := GK h0 hs hc _ (BK (d := []) (show k < (BV g c).length by omega))
 have hF := Ey h0 hs hc
 have hb : Gj ((BV g c).getD k []) (Ck g c) = 0 := R9 hT.1 hF.1
 have h1 := V4 (he.2.2 (he.1.trans hb))
 have h2 := WY hT.1
 have h3 := WY hF.1
 dsimp only at h1
 omega
end Go.VS

/- Words read back. -/
set_option linter.unusedVariables false
set_option linter.unusedSimpArgs false
namespace Go.VS
variable {P : Pg}
def up (l : Bs) : List Int := l.map fun b => ((b.toNat : Nat) : Int)
end Go.VS

/- ChangesLists: from what Everywhere answers. -/
set_option linter.unusedVariables false
set_option linter.unusedSimpArgs false
namespace Go.VS
variable {P : Pg}
def OO (P : Pg) : Prop := ∀ x : List Aq × Int, MR x.1 → Fn P Ab5 Dr x fun (d : List Bs × Int) _ => Vq x.1 x.2 d
end Go.VS

/- The paths that differ from all parents, of graphs made of raw numbers. -/
set_option linter.unusedVariables false
set_option linter.unusedSimpArgs false
namespace Go.VS
variable {P : Pg}
theorem Yj {l m : List Bs} (hl : l.Pairwise fun x y => Op.bytesLess x y = true) (hm : m.Pairwise fun x y => Op.bytesLess x y = true) (h : ∀ t, t ∈ l ↔ t ∈ m) : l = m := by
 have e : (l.map fun p => ((p, 0) : AE)) = m.map fun p => ((p, 0) : AE) := by
  refine S9 ?_ ?_ fun t => ?_
  ·unfold YM; rw [List.pairwise_map]; exact hl
  ·unfold YM; rw [List.pairwise_map]; exact hm
  ·rw [List.mem_map, List.mem_map]
   constructor
   ·rintro ⟨p, hp, e⟩; exact ⟨p, (h p).1 hp, e⟩
   ·rintro ⟨p, hp, e⟩; exact ⟨p, (h p).2 hp, e⟩
 have := congrArg (List.map Prod.fst) e
 rw [List.map_map, List.map_map] at this
 have hid : (Prod.fst ∘ fun p => ((p, 0) : AE)) = (id : Bs → Bs) := rfl
 rw [hid, List.map_id, List.map_id] at this
 exact this
theorem Aay {g : List Aq} (h0 : DF g 0) (hT : ∀ c ∈ g, EH 768 c.2.2) {c : Int} (hc : inR g c) : EH 768 (Ck g c) ∧ ∀ t ∈ BV g c, EH 768 t := by
 have hf : ∀ {c : Int}, inR g c → EH 768 (Ck g c) := fun {c} hc => hT _ (EM (g := g) (i := c.toNat) (by have := hc.1; have := hc.2; omega))
 refine ⟨hf hc, fun t ht => ?_⟩
 unfold BV at ht
 split at ht
 ·rw [List.mem_singleton.1 ht]
  exact ⟨by simp, fun f hf => nomatch hf⟩
 ·obtain ⟨p, hp, rfl⟩ := List.mem_map.1 ht
  exact hf (Fq (Ep h0).2.1 c hc p hp)
theorem KE {g : List Aq} {c : Int} (h0 : DF g 0) (hs : MR g) (hc : inR g c) {L : List (List AE)} (hO : Oc g c L) {k : Nat} (hk : k < L.length) : Gb ((BV g c).getD k []) (Ck g c) (L.getD k []) := by
 obtain ⟨e, he⟩ := hO.2 k hk
 have hl := hO.1
 have hT := GK h0 hs hc _ (BK (d := []) (show k < (BV g c).length by omega))
 have hF := Ey h0 hs hc
 have hb : Gj ((BV g c).getD k []) (Ck g c) = 0 := R9 hT.1 hF.1
 exact he.2.2 (he.1.trans hb)
theorem Oa {B : Nat} {l : List AA} (h : EH B l) {f : AA} (hf : f ∈ l) : f.1 ∈ Bu := h.1.subset (List.mem_map.2 ⟨f, hf, rfl⟩)
theorem TL {g : List Aq} {c : Int} (h0 : DF g 0) (hs : MR g) (hT : ∀ c ∈ g, EH 768 c.2.2) (hc : inR g c) {L : List (List AE)} (hO : Oc g c L) : Jy L = Bu.filter fun nm => FA L nm := by
 have hlen := PQ h0 hs hc hO
 have hd := KE h0 hs hc hO hlen.1
 have hS := Aay h0 hT hc
 have hl := hO.1
 refine Yj ?_ ?_ fun t => ?_
 ·unfold Jy H7
  rw [List.pairwise_map]
  exact (show (L.getD 0 []).Pairwise fun x y => Op.bytesLess x.1 y.1 = true from hd.1).sublist List.filter_sublist
 ·exact (Rp.imp fun h => h.1).sublist List.filter_sublist
 ·unfold Jy H7
  rw [List.mem_map, List.mem_filter]
  constructor
  ·rintro ⟨u, hu, rfl⟩
   obtain ⟨hu, ha⟩ := List.mem_filter.1 hu
   refine ⟨?_, ha⟩
   rcases Mn hd hu with ⟨f, hf, e⟩ | ⟨f, hf, e⟩
   ·rw [← e]; exact Oa (hS.2 _ (BK (d := []) (show 0 < (BV g c).length by omega))) hf
   ·rw [← e]; exact Oa hS.1 hf
  ·rintro ⟨_, ha⟩
   have h1 : Jh (L.getD 0 []) t = true := List.all_eq_true.1 ha _ (BK hlen.1)
   obtain ⟨u, hu, e⟩ := List.any_eq_true.1 h1
   have e : u.1 = t := eq_of_beq e
   exact ⟨u, List.mem_filter.2 ⟨hu, by rw [e]; exact ha⟩, e⟩
theorem X9 {a b : List AA} {d : List AE} (h : Gb a b d) (p : Bs) : Jh d p = true ↔ Mo a b p ≠ none := by
 constructor
 ·intro hb hn
  obtain ⟨u, hu, e⟩ := List.any_eq_true.1 hb
  have e : u.1 = p := eq_of_beq e
  have := (h.2 u.1 u.2).1 hu
  rw [e, hn] at this
  cases this
 ·intro hn
  cases hk : Mo a b p with
  | none => exact absurd hk hn
  | some v => exact List.any_eq_true.2 ⟨(p, v), (h.2 p v).2 hk, by simp⟩
end Go.VS

/- ChangesEverywhere: from what Everywhere answers. -/
set_option linter.unusedVariables false
set_option linter.unusedSimpArgs false
namespace Go.VS
variable {P : Pg}
theorem SC (a b : List AA) (p : Bs) : (cond (!((AQ a p).isSome == (AQ b p).isSome)) true (!((AQ a p).getD [] == (AQ b p).getD []))) = true ↔ Mo a b p ≠ none := by
 unfold Mo
 cases AQ a p with
 | none => cases AQ b p <;> simp
 | some x =>
  cases AQ b p with
  | none => simp
  | some y =>
   dsimp only
   by_cases h : x = y
   ·rw [if_pos h]; subst h; simp
   ·rw [if_neg h]; simp [h]
theorem Mk {a b : List AA} {d : List AE} (h : Gb a b d) (p : Bs) : Jh d p = (cond (!((AQ a p).isSome == (AQ b p).isSome)) true (!((AQ a p).getD [] == (AQ b p).getD []))) := by
 rw [Bool.eq_iff_iff, SC, X9 h]
theorem XR (p : Bs) : AQ [] p = none := by
 cases h : AQ [] p with
 | none => rfl
 | some v => exact absurd (Tx h) (by simp)
theorem ZT {b : List AA} {d : List AE} (h : Gb [] b d) (p : Bs) : Jh d p = (AQ b p).isSome := by
 rw [Mk h, XR]
 cases AQ b p <;> simp
theorem Q3 {f : Bs → Bool} {l : List Bs} {i : Nat} (h : i < l.length) : (l.take (i + 1)).filter f = (l.take i).filter f ++ (if f (l.getD i []) = true then [l.getD i []] else []) := by
 rw [Ke (d := []) h, List.filter_append]
 by_cases hb : f (l.getD i []) = true
 ·rw [if_pos hb, List.filter_cons_of_pos hb]; rfl
 ·rw [if_neg hb, List.filter_cons_of_neg hb]; rfl
theorem Abd {f : Bs → Bool} {l : List Bs} {i : Nat} (h : i < l.length) (hb : f (l.getD i []) = true) : ((l.take i).filter f).length < (l.filter f).length ∧ (l.filter f).getD ((l.take i).filter f).length [] = l.getD i [] := by
 have e : l.filter f = ((l.take i).filter f ++ [l.getD i []]) ++ (l.drop (i + 1)).filter f := by
  have h1 := Q3 (f := f) h
  rw [if_pos hb] at h1
  rw [← h1, ← List.filter_append, List.take_append_drop]
 rw [e]
 refine ⟨by rw [List.length_append, List.length_append]; simp only [List.length_cons, List.length_nil]; omega, ?_⟩
 rw [ZM (by rw [List.length_append]; simp only [List.length_cons, List.length_nil]; omega), ZN]
theorem JV (h : Has P Cx) (hG : OP P) (hM : Iu P) (hL : Ki P) (hE : OO P) (hF : Jl P) (hAw : GO P) (x : List Int × Int) :
  Fn P Adl AZ x fun (d : Bool) _ => d = true := by
 obtain ⟨raw, c⟩ := x
 refine G0 h ?_
 unfold EC
 dsimp only
 refine (hG (raw, (6, 2)) ⟨show (0 : Int) ≤ 6 by decide, show (6 : Int) ≤ 9 by decide⟩ ⟨show (0 : Int) ≤ 2 by decide, show (2 : Int) ≤ 2 by decide⟩).to ?_
 rintro (g : List Aq) _ hg
 have hg : YX 6 g := hg
 obtain ⟨hgl, hg0, hgs, hgT⟩ := hg
 refine ⟨fun _ => hAw.at rfl, fun hb => ?_⟩
 have hgn : ¬((g.length : Nat) : Int) = 0 := by simpa using hb
 refine hM.at (by omega) (by omega) ?_
 have hcr := DV (a := c) (n := (g.length : Int)) (by omega) (by omega)
 generalize FB c (g.length : Int) = c at hcr ⊢
 have hin : inR g c := hcr
 have hc2 : c.toNat < g.length := by omega
 refine (hE (g, c) hgs).to ?_
 rintro (d7 : List Bs × Int) _ h7
 obtain ⟨V, ev⟩ := d7
 obtain ⟨e, he, _, _, h4⟩ := (show Vq g c (V, ev) from h7)
 obtain ⟨L, hO, hV⟩ := h4 (IE he hg0) hin
 have hV1 : V = Jy L := congrArg Prod.fst hV
 have hV2 : ev = 0 := congrArg Prod.snd hV
 subst hV2
 clear h7 h4 hV he
 refine (hL (g, c) hgs hg0 hin).to ?_
 rintro (d9 : List (List AE) × Int) _ h9
 obtain ⟨M, e9⟩ := d9
 have h9 : Oc g c M ∧ e9 = 0 := h9
 obtain ⟨hOM, rfl⟩ := h9
 have hML : M = L := Yn hg0 hgs hin hOM hO
 subst hML
 have hlen3 : 0 < M.length ∧ M.length ≤ 1000000 ∧ ∀ k, k < M.length → (M.getD k []).length ≤ 400 := PQ hg0 hgs hin hO
 obtain ⟨hpos, hMm, hMb⟩ := hlen3
 have hVn : V = Bu.filter fun nm => FA M nm := hV1.trans (TL hg0 hgs (fun c hc => (hgT c hc).1) hin hO)
 have hVl : V.length ≤ 4 := by rw [hVn]; exact List.length_filter_le _ _
 have hz : (((M.length : Nat) : Int) == 0) = false := by rw [beq_eq_false_iff_ne]; omega
 have hFl := Ey hg0 hgs hin
 dsimp only
 refine ⟨fun hb => (by rw [hz] at hb; exact absurd hb (by decide)), fun _ => ?_⟩
 refine Ai.mid (fun q => q.2 = ((V.length : Nat) : Int)) ?_ fun q hq => ?_
 ·refine Bl.of (fun q => (0 ≤ q.2.2 ∧ q.2.2 ≤ 4) ∧ q.2.1 = ((((Bu.take q.2.2.toNat).filter fun nm => FA M nm).length : Nat) : Int)) (fun q => (4 - q.2.2).toNat) ⟨⟨Int.le_refl _, by decide⟩, rfl⟩ ?_
  rintro ⟨b, n, i⟩ ⟨⟨i0, i1⟩, hn⟩
  dsimp only at i0 i1 hn ⊢
  refine ⟨fun hi => ?_, fun hi => ?_⟩
  ·have hi := of_decide_eq_true hi
   have hi2 : i.toNat < Bu.length := by show i.toNat < 4; omega
   have hi5 : 0 ≤ i ∧ i < ((Bu.length : Nat) : Int) := ⟨i0, by show i < 4; exact hi⟩
   have hnx := Q3 (f := fun nm => FA M nm) hi2
   have hle := List.length_filter_le (fun nm => FA M nm) (Bu.take i.toNat)
   rw [List.length_take] at hle
   refine Ai.mid (fun q => q.2 = ((((Bu.take (i.toNat + 1)).filter fun nm => FA M nm).length : Nat) : Int)) ?_ fun q hq => by rw [w64 (by omega) (by omega)]; exact ⟨⟨⟨by omega, by omega⟩, by rw [show (i + 1).toNat = i.toNat + 1 by omega]; exact hq⟩, by omega⟩
   refine Ai.mid (fun f => f = ((AQ (Ck g c) (Bu.getD i.toNat [])).getD [], (AQ (Ck g c) (Bu.getD i.toNat [])).isSome)) ⟨hcr, hc2, hi5, hi2, hF.at hFl.2.1 ?_, trivial⟩ fun f hf => ?_
   ·have e := TP (Ko hFl.1) (Bu.getD i.toNat [])
    exact ⟨⟨⟨⟨e, trivial⟩, trivial⟩, ⟨⟨e, trivial⟩, trivial⟩, trivial⟩, ⟨⟨⟨e, trivial⟩, trivial⟩, trivial⟩, trivial⟩
   ·subst hf
    refine ⟨hcr, hc2, ?_⟩
    refine Ai.mid (fun w => w = FA M (Bu.getD i.toNat [])) ?_ fun w hw => ?_
    ·by_cases hp0 : (BF g c).length = 0
     ·have eT : BV g c = [[]] := by unfold BV; rw [if_pos hp0]
      have hM1 : M.length = 1 := by have := hO.1; rw [eT] at this; exact this
      have hd := KE hg0 hgs hin hO hpos
      rw [eT] at hd
      have hal : FA M (Bu.getD i.toNat []) = (AQ (Ck g c) (Bu.getD i.toNat [])).isSome := by
       have hM2 : M = [M.getD 0 []] := by
        match M, hM1 with
        | [ds], _ => rfl
       rw [hM2]
       show ([M.getD 0 []].all fun d => Jh d _) = _
       rw [List.all_cons, List.all_nil, Bool.and_true]
       exact ZT hd _
      rw [hal]
      refine Bl.of (fun q => q.2 = 0 ∧ q.1 = (AQ (Ck g c) (Bu.getD i.toNat [])).isSome) (fun _ => 0) ⟨rfl, ?_⟩ ?_
      ·show cond (decide ((((BF g c).length : Nat) : Int) > (0 : Int))) true _ = _
       rw [decide_eq_false (by omega)]
       rfl
      ·rintro ⟨w, k⟩ ⟨hk, hw⟩
       dsimp only at hk hw ⊢
       subst hk
       refine ⟨hcr, hc2, fun hb => ?_, fun _ => hw⟩
       have hb := of_decide_eq_true hb
       have hb : (0 : Int) < (((BF g c).length : Nat) : Int) := hb
       omega
     ·have eT : BV g c = (BF g c).map fun p => Ck g p := by unfold BV; rw [if_neg hp0]
      have hMp : M.length = (BF g c).length := by have := hO.1; rw [eT, List.length_map] at this; exact this
      refine Bl.of (fun q => (0 ≤ q.2 ∧ q.2 ≤ M.length) ∧ q.1 = FA (M.take q.2.toNat) (Bu.getD i.toNat [])) (fun q => (M.length - q.2).toNat) ⟨⟨Int.le_refl _, Int.natCast_nonneg _⟩, ?_⟩ ?_
      ·show cond (decide ((((BF g c).length : Nat) : Int) > (0 : Int))) true _ = _
       rw [decide_eq_true (by omega)]
       rfl
      ·rintro ⟨w, k⟩ ⟨⟨k0, k1⟩, hw⟩
       dsimp only at k0 k1 hw ⊢
       refine ⟨hcr, hc2, fun hb => ?_, fun hb => ?_⟩
       ·have hb := of_decide_eq_true hb
        have hb : k < (((BF g c).length : Nat) : Int) := hb
        have hk2 : k.toNat < M.length := by omega
        have hkp : k.toNat < (BF g c).length := by omega
        have hpr := Fq (Ep hg0).2.1 c hin _ (BK (d := 0) hkp)
        have hpr2 : ((BF g c).getD k.toNat 0).toNat < g.length := by have := hpr.1; have := hpr.2; omega
        have hTl := Ey hg0 hgs hpr
        have hdk := KE hg0 hgs hin hO hk2
        have eTk : (BV g c).getD k.toNat [] = Ck g ((BF g c).getD k.toNat 0) := by rw [eT, getD_eq (by rw [List.length_map]; exact hkp), List.getElem_map, getD_eq hkp]
        rw [eTk] at hdk
        have hal := QU M (Bu.getD i.toNat []) hk2
        rw [← hw, Mk hdk] at hal
        refine Ai.mid (fun w => w = FA (M.take (k.toNat + 1)) (Bu.getD i.toNat [])) ?_ fun w hw => by rw [w64 (by omega) (by omega)]; exact ⟨⟨⟨by omega, by omega⟩, by rw [show (k + 1).toNat = k.toNat + 1 by omega]; exact hw⟩, by omega⟩
        refine Ai.mid (fun f => f = ((AQ (Ck g ((BF g c).getD k.toNat 0)) (Bu.getD i.toNat [])).getD [], (AQ (Ck g ((BF g c).getD k.toNat 0)) (Bu.getD i.toNat [])).isSome)) ⟨hcr, hi5, hi2, ⟨hc2, ⟨k0, hb⟩, hkp, ⟨hpr.1, hpr.2⟩, hpr2, hF.at hTl.2.1 ?_, trivial⟩, trivial⟩ fun f hf => ?_
        ·have e := TP (Ko hTl.1) (Bu.getD i.toNat [])
         exact ⟨⟨⟨⟨e, trivial⟩, trivial⟩, ⟨⟨e, trivial⟩, trivial⟩, trivial⟩, ⟨⟨⟨e, trivial⟩, trivial⟩, trivial⟩, trivial⟩
        ·subst hf
         rw [hal]
         cases w <;> rfl
       ·have hb := of_decide_eq_false hb
        have hb : ¬k < (((BF g c).length : Nat) : Int) := hb
        show w = _
        rw [hw, List.take_of_length_le (by omega)]
    ·subst hw
     refine Ai.mid (fun q => q.2 = ((((Bu.take (i.toNat + 1)).filter fun nm => FA M nm).length : Nat) : Int)) ⟨fun hb => ?_, fun hb => ?_⟩ fun _ h => h
     ·have hat := Abd (f := fun nm => FA M nm) hi2 hb
      rw [← hVn] at hat
      have hnl : n.toNat = ((Bu.take i.toNat).filter fun nm => FA M nm).length := by omega
      rw [← hnl] at hat
      refine ⟨fun _ => ⟨by omega, by omega⟩, fun _ => by omega, fun _ => hi5, fun _ => hi2, fun hb2 => ?_, fun _ => ?_⟩
      ·rw [decide_eq_false (by omega), cond_false] at hb2
       have e : (V.getD n.toNat [] == Bu.getD i.toNat []) = true := by rw [hat.2]; simp
       exact absurd (hb2.symm.trans (congrArg (! ·) e)) (by simp)
      ·rw [hnx, if_pos hb, List.length_append]
       rw [w64 (by omega) (by omega), hn]
       rfl
     ·rw [hnx, if_neg (by rw [hb]; simp), List.append_nil]
      exact hn
  ·have hi := of_decide_eq_false hi
   show n = ((V.length : Nat) : Int)
   rw [hn, hVn, List.take_of_length_le (by show 4 ≤ i.toNat; omega)]
 ·obtain ⟨b, n⟩ := q
  have hq : n = ((V.length : Nat) : Int) := hq
  subst hq
  dsimp only
  have h00 : (((V.length : Nat) : Int) == ((V.length : Nat) : Int)) = true := by simp
  have h01 : cond (decide (((M.length : Nat) : Int) > (1 : Int))) true (((V.length : Nat) : Int) == (((M.getD 0 []).length : Nat) : Int)) = true := by
   by_cases h1 : ((M.length : Nat) : Int) > 1
   ·rw [decide_eq_true h1]; rfl
   ·rw [decide_eq_false h1, cond_false, beq_iff_eq, hV1]
    have hM1 : ∃ ds, M = [ds] := by
     match M, hpos, h1 with
     | [ds], _, _ => exact ⟨ds, rfl⟩
     | a :: b :: r, _, h1 => exact absurd (by simp only [List.length_cons]; omega) h1
    obtain ⟨ds, rfl⟩ := hM1
    have : ∀ l : List AE, (∀ t ∈ l, t ∈ ds) → (l.filter fun t => FA [ds] t.1) = l := fun l hl => List.filter_eq_self.2 fun t ht => by
     show ([ds].all fun d => Jh d t.1) = true
     rw [List.all_cons, List.all_nil, Bool.and_true]
     exact List.any_eq_true.2 ⟨t, hl t ht, by simp⟩
    show (((H7 [ds] ds).length : Nat) : Int) = ((ds.length : Nat) : Int)
    unfold H7
    rw [this ds fun _ h => h, List.length_map]
  rw [h00, cond_true]
  refine ⟨fun _ _ => ⟨by decide, by omega⟩, fun _ _ => hpos, hpos, ?_⟩
  refine Ai.mid (fun d => d = true) ⟨fun _ => hAw.at rfl, fun hb => absurd (h01.symm.trans hb) (by simp), trivial⟩ ?_
  rintro d rfl
  show cond (cond (decide (((M.length : Nat) : Int) > (1 : Int))) true (((V.length : Nat) : Int) == (((M.getD 0 []).length : Nat) : Int))) true false = true
  rw [h01]
  rfl
end Go.VS
