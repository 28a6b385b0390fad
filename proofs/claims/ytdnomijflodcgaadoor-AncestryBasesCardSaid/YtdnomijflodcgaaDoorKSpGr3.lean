/- Graphs made of raw numbers are valid. -/
import Derived.Test.YtdnomijflodcgaaDoorKSpGr2
set_option linter.unusedVariables false
set_option linter.unusedSimpArgs false
namespace Go.VS
variable {P : Pg}
theorem Z9 {g : List Aq} (hv : Vl g) (f : Int → Int) (h : ∀ c, inR g c → ∀ p ∈ BF g c, f p < f c) {a b : Int} (hr : Rch g a b) : inR g a → f b ≤ f a := by
 induction hr with
 | refl c => exact fun _ => Int.le_refl _
 | step hm t ih =>
  intro ha
  have h1 := h _ ha _ hm
  have h2 := ih (hv _ ha _ hm)
  omega
theorem AcO {g : List Aq} (hv : Vl g) (f : Int → Int) (h : ∀ c, inR g c → ∀ p ∈ BF g c, f p < f c) : ¬L8 g := by
 rintro ⟨c, hc, p, hp, hr⟩
 have h1 := h c hc p hp
 have h2 := Z9 hv f h hr (hv c hc p hp)
 omega
theorem AbI {n : Nat} {l : List Int} (hn : l.Nodup) (h : ∀ p ∈ l, 0 ≤ p ∧ p < (n : Int)) : UZ n l := by
 intro j hj
 refine ⟨h _ (BK hj), fun hm => ?_⟩
 obtain ⟨i, hi⟩ := List.getElem?_of_mem hm
 have hi2 : i < (l.take j).length := (List.getElem?_eq_some_iff.1 hi).1
 rw [List.length_take] at hi2
 rw [List.getElem?_take_of_lt (by omega), List.getElem?_eq_getElem (by omega), List.getD_eq_getElem?_getD, List.getElem?_eq_getElem hj, Option.getD_some] at hi
 rw [List.nodup_iff_pairwise_ne, List.pairwise_iff_getElem] at hn
 exact hn i j (by omega) hj (by omega) (Option.some.inj hi)
def YX (n : Nat) (g : List Aq) : Prop := g.length ≤ n ∧ DF g 0 ∧ MR g ∧ ∀ c ∈ g, EH 768 c.2.2 ∧ c.1.length ≤ 3
theorem Qo : ∀ {g : List Aq}, (∀ c ∈ g, Ex c.2.2 = 0) → HF g = 0
 | [], _ => rfl
 | c :: g, h => by
  rw [HF, if_neg (by simpa using h c (List.mem_cons_self ..))]
  exact Qo fun x hx => h x (List.mem_cons_of_mem _ hx)
theorem Xb {n : Nat} {g : List Aq} (hn : g.length ≤ n) (hn2 : n ≤ 9) (f : Int → Int) (h : ∀ j, j < g.length → (g.getD j ([], (0, []))).1.length ≤ 3 ∧ (g.getD j ([], (0, []))).1.Nodup ∧ (∀ p ∈ (g.getD j ([], (0, []))).1, (0 ≤ p ∧ p < (g.length : Int)) ∧ f p < f j) ∧ (0 ≤ (g.getD j ([], (0, []))).2.1 ∧ (g.getD j ([], (0, []))).2.1 < 5) ∧ EH 768 (g.getD j ([], (0, []))).2.2) : YX n g := by
 have hT : ∀ c ∈ g, EH 768 c.2.2 ∧ c.1.length ≤ 3 := El (d := ([], (0, []))) fun j hj => ⟨(h j hj).2.2.2.2, (h j hj).1⟩
 have hrel : HN g := El (d := ([], (0, []))) (p := fun c => UZ g.length c.1) fun j hj => AbI (h j hj).2.1 fun p hp => ((h j hj).2.2.1 p hp).1
 have hv := Fq hrel
 refine ⟨hn, SB ⟨by omega, fun c hc => Nat.le_trans (hT c hc).2 (by decide)⟩ hrel (AcO hv f fun c hc p hp => ?_) (El (d := ([], (0, []))) (p := fun c => 0 ≤ c.2.1 ∧ c.2.1 ≤ 2147483647) fun j hj => by have := (h j hj).2.2.2.1; omega) (Qo fun c hc => YR (hT c hc).1 (by decide)).symm, fun c hc => (Aax (hT c hc).1 (by decide)).2, hT⟩
 have h0 := hc.1
 have h1 := hc.2
 have := ((h c.toNat (by omega)).2.2.1 p hp).2
 rw [show ((c.toNat : Nat) : Int) = c by omega] at this
 exact this
theorem Ady {B n : Nat} {g : List Aq} (hB : B ≤ 3) (hn : g.length ≤ n) (hn2 : n ≤ 9) (h : GU B g) : YX n g := Xb hn hn2 (fun x => x) fun j hj => by
 obtain ⟨⟨h1, h2, h3⟩, h4, h5⟩ := h j hj
 exact ⟨h1, h2, fun p hp => ⟨by have := h3 p hp; omega, (h3 p hp).2⟩, h4, h5.mono (Z5 hB (by omega))⟩
theorem Ym {α β : Type} {f : α → β} (hf : ∀ a b, f a = f b → a = b) {l : List α} (h : l.Nodup) : (l.map f).Nodup := by
 rw [List.nodup_iff_pairwise_ne] at *
 rw [List.pairwise_map]
 exact h.imp fun hne e => hne (hf _ _ e)
theorem AbW {B n : Nat} {g d : List Aq} (hB : B ≤ 3) (hn : g.length ≤ n) (hn2 : n ≤ 9) (h : GU B g) (ht : YZ g d) : YX n d := by
 rcases ht with rfl | ⟨hl, ht⟩
 ·exact Ady hB hn hn2 h
 ·refine Xb (by omega) hn2 (fun x => -x) fun j hj => ?_
  have e := ht (g.length - 1 - j) (by omega)
  rw [show g.length - 1 - (g.length - 1 - j) = j by omega] at e
  rw [e]
  obtain ⟨⟨h1, h2, h3⟩, h4, h5⟩ := h (g.length - 1 - j) (by omega)
  refine ⟨by unfold Qr; rw [List.length_map]; exact h1, Ym (fun a b e => by omega) h2, fun p hp => ?_, h4, h5.mono (Z5 hB (by omega))⟩
  obtain ⟨q, hq, rfl⟩ := List.mem_map.1 hp
  have := h3 q hq
  omega
def OP (P : Pg) : Prop := ∀ x : List Int × (Int × Int), (0 ≤ x.2.1 ∧ x.2.1 ≤ 9) → (0 ≤ x.2.2 ∧ x.2.2 ≤ 2) → Fn P AaD DQ x fun (d : List Aq) _ => YX x.2.1.toNat d
theorem Aan (h : Has P Hu) (hA : KV P) (hM : Iu P) (hF : HY P) (hC : M3 P) (hT : M6 P) : OP P := by
 rintro ⟨raw, n, lines⟩ ⟨n0, n1⟩ ⟨l0, l1⟩
 dsimp only at n0 n1 l0 l1
 refine Sj h ?_
 unfold NL
 dsimp only
 rw [w64 (n := n + 1) (by omega) (by omega)]
 refine hA.at (by decide) (hM.at (by omega) (by omega) ?_)
 have hr := DV (a := atF raw 0) (n := n + 1) (by omega) (by omega)
 generalize FB (atF raw 0) (n + 1) = m at hr ⊢
 have hB : lines.toNat + 1 ≤ 3 := by omega
 refine Ai.mid (fun g => g.length = m.toNat ∧ GU (lines.toNat + 1) g) ?_ fun g hg => ?_
 ·refine Bl.of (fun q => (0 ≤ q.2 ∧ q.2 ≤ m) ∧ q.1.length = q.2.toNat ∧ GU (lines.toNat + 1) q.1) (fun q => (m - q.2).toNat) ⟨⟨Int.le_refl _, hr.1⟩, rfl, fun j hj => absurd hj (by simp)⟩ ?_
  rintro ⟨g, i⟩ ⟨⟨i0, i1⟩, hgl, hg⟩
  dsimp only at i0 i1 hgl hg ⊢
  refine ⟨fun hi => ?_, fun hi => by have hi := of_decide_eq_false hi; exact ⟨by omega, hg⟩⟩
  have hi := of_decide_eq_true hi
  refine Ai.mid (fun g => g.length = i.toNat + 1 ∧ GU (lines.toNat + 1) g) ?_ fun g2 hn => ?_
  ·rw [w64 (n := 1000 + i) (by omega) (by omega), w64 (n := 40 * i) (by omega) (by omega), w64 (n := 1100 + 40 * i) (by omega) (by omega), w64 (n := 1500 + i) (by omega) (by omega), w64 (n := 200 * i) (by omega) (by omega), w64 (n := 2000 + 200 * i) (by omega) (by omega), w64 (n := 1600 + i) (by omega) (by omega), w64 (n := i - 1) (by omega) (by omega)]
   refine hA.at (by omega) (hM.at (by decide) (by decide) ?_)
   have hdr := DV (a := atF raw (1000 + i)) (n := 5) (by decide) (by decide)
   generalize FB (atF raw (1000 + i)) 5 = dt at hdr ⊢
   refine Ai.mid (fun x => HX i x.1 ∧ x.2 = (dt, [])) ?_ fun x hx => ?_
   ·refine Bl.of (fun q => (0 ≤ q.1 ∧ q.1 ≤ i) ∧ HX q.1 q.2.1 ∧ q.2.2 = (dt, [])) (fun q => (i - q.1).toNat) ⟨⟨Int.le_refl _, i0⟩, ⟨Nat.zero_le _, List.nodup_nil, fun p hp => nomatch hp⟩, rfl⟩ ?_
    rintro ⟨p, ⟨l, r⟩⟩ ⟨⟨p0, p1⟩, hl, hrr⟩
    dsimp only at p0 p1 hl hrr ⊢
    refine ⟨fun hp => ?_, fun hp => by have hp := of_decide_eq_false hp; exact ⟨hl.mono (by omega), hrr⟩⟩
    have hp := of_decide_eq_true hp
    refine Ai.mid (fun x => HX (p + 1) x.1 ∧ x.2 = (dt, [])) ?_ fun x hx => ?_
    ·rw [w64 (n := 1100 + 40 * i + p) (by omega) (by omega)]
     refine hA.at (by omega) ⟨by decide, ?_⟩
     refine Ai.mid (fun x => HX (p + 1) x.1 ∧ x.2 = (dt, [])) ⟨fun hb => ?_, fun _ => ⟨hl.mono (by omega), hrr⟩⟩ fun _ h => h
     have hb2 := of_decide_eq_true (Sc hb).2
     exact ⟨by simp only [List.length_cons, List.length_nil]; omega, hl.app p0 (by omega), hrr⟩
    ·rw [w64 (by omega) (by omega)]
     exact ⟨⟨⟨by omega, by omega⟩, hx.1, hx.2⟩, by omega⟩
   ·refine Ai.mid (fun _ => True) ⟨fun _ => hA.at (by omega) trivial, fun _ => trivial, trivial⟩ fun d27 _ => ⟨fun _ => by decide, ?_⟩
    refine Ai.mid (fun y => HX i y.1 ∧ y.2 = (dt, [])) ⟨fun hb => ?_, fun _ => hx⟩ fun y hy => ?_
    ·have hi0 := of_decide_eq_true (Sc (Sc hb).1).2
     exact ⟨⟨Nat.succ_le_succ (Nat.zero_le _), by simp, fun p hp => by rw [List.mem_singleton.1 hp]; omega⟩, hx.2⟩
    ·obtain ⟨hy1, hy2⟩ := hy
     refine (hF (raw, (2000 + 200 * i, lines)) ⟨by dsimp only; omega, by dsimp only; omega⟩ ⟨l0, by dsimp only; omega⟩).to ?_
     rintro (fl : List AA) _ hfl
     have hfl : fl = GY raw (2000 + 200 * i) lines := hfl
     have hfs : EH (lines.toNat + 1) fl := by rw [hfl]; exact TN l0 (by omega)
     refine Ai.mid (fun _ => True) ⟨fun _ => hA.at (by omega) trivial, fun _ => trivial, trivial⟩ fun d34 _ => ⟨fun _ => by decide, ?_⟩
     have hii : ((i.toNat : Nat) : Int) = i := by omega
     have hy1' : HX ((i.toNat : Nat) : Int) y.1 := by rw [hii]; exact hy1
     have hdt : 0 ≤ y.2.1 ∧ y.2.1 < 5 := by rw [hy2]; exact hdr
     refine Ai.mid (fun z => OkC (lines.toNat + 1) i.toNat z) ⟨fun hb => ?_, fun _ => ?_⟩ fun z hz => ⟨by simp only [List.length_cons, List.length_nil]; omega, ?_, hg.app (by rw [hgl]; exact hz)⟩
     ·have hpos := of_decide_eq_true (Sc hb).1
      have hpos2 : 0 < y.1.length := by omega
      have hp := hy1.2.2 _ (BK (d := 0) hpos2)
      refine ⟨⟨by decide, by omega⟩, hpos2, ⟨hp.1, by rw [hgl]; exact (show y.1.getD 0 0 < ((i.toNat : Nat) : Int) by rw [hii]; exact hp.2)⟩, by have := hp.1; have := hp.2; show (y.1.getD 0 0).toNat < g.length; omega, ?_⟩
      have hpn : (y.1.getD 0 0).toNat < i.toNat := by omega
      have hog := hg (y.1.getD 0 0).toNat (by omega)
      have hpb := Z5 (B := lines.toNat + 1) (i := (y.1.getD 0 0).toNat) hB (by omega)
      have hpo := pow_one (lines.toNat + 1) (y.1.getD 0 0).toNat
      have hup := AcS (B := lines.toNat + 1) hpn
      refine (hC ((lines.toNat + 1) * 2 ^ (y.1.getD 0 0).toNat) ((g.getD (y.1.getD 0 0).toNat ([], (0, []))).2.2, (raw, (2000 + 200 * i, lines))) hog.2.2 hpo (by omega) ⟨by dsimp only; omega, by dsimp only; omega⟩ ⟨l0, by dsimp only; omega⟩).to ?_
      rintro (fl2 : List AA) _ hfl2
      exact ⟨hy1', hdt, EH.mono hfl2 hup⟩
     ·exact ⟨hy1', hdt, hfs.mono (pow_one _ _)⟩
     ·rw [List.length_append, hgl]; rfl
  ·rw [w64 (by omega) (by omega)]
   exact ⟨⟨⟨by omega, by omega⟩, by rw [hn.1]; omega, hn.2⟩, by omega⟩
 ·refine (hT (g, raw) (by dsimp only; omega) fun j hj => ?_).to ?_
  ·have := (hg.2 j hj).1
   exact ⟨Nat.le_trans this.1 (by decide), fun p hp => by have h3 := this.2.2 p hp; have hj : j < g.length := hj; dsimp only; omega⟩
  ·rintro (d : List Aq) _ hd
   exact AbW hB (by omega) (by omega) hg.2 hd
end Go.VS
