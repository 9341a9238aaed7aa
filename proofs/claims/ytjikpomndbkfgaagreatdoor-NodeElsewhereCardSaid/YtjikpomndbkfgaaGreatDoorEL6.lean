/- NodeElsewhere: for every input that the statement's row lets in the law answers true and its arguments read as before; conditions: none beyond the row's own (part 6; joined, pruned and shortened by a program of the prover's own: names of two letters stand for longer ones.) -/
import Derived.Test.YtjikpomndbkfgaaGreatDoorEL5
import Derived.Deep.Slices
import Derived.OpenShut
import Derived.ProofKit
import Derived.Test.YtjikpomndbkfgaaGreatDoorRows
import Derived.LaidMore
import Derived.Stop.Joined
import Derived.Shelf.Sort.Plain
import Derived.Shelf.Slices.In.SortNone
import Derived.Shelf.SlIterI.Collect
import Derived.Shelf.SlSortCmp.NoneTotal
import Derived.Test.YtjikpomndbkfgaaGreatDoorCards
import Derived.Test.YtjikpomndbkfgaaGreatDoorTie
import Derived.SevenTiedAt
set_option linter.all false
set_option linter.unusedVariables false
set_option linter.unusedSimpArgs false
set_option linter.unusedSectionVars false
namespace Go.Proofs.YtjikpomndbkfgaaGreatDoor
open Go Go.Sx Go.Nd
set_option maxRecDepth 10000
structure TR (W X : RS) (H : Int → Prop) (S : Int × Int → Prop) : Prop where
  ts : TS W H S (qZ X) (fun k => wl X k = true) X.gone
  b0 : ∀ i, InB i → H i → X.all i = Blk.zero
  b1 : ∀ i, InB i → ¬ H i → X.all i = W.all i
  num : X.num = W.num
  ver : X.ver = W.ver
  kind : X.kind = W.kind
  size : X.size = W.size
  time : X.time = W.time
structure TN (n m : NS) (W : RS) (H : Int → Prop) (S : Int × Int → Prop) : Prop where
  ts : TS W H S (fun k => (m.at_ k).getD 0) (fun k => m.stale k ≠ none) m.gone
  d0 : ∀ i, InB i → H i → m.data i = none
  d1 : ∀ i, InB i → ¬ H i → m.data i = n.data i
  st1 : ∀ i, m.stale (1, i) = none
  ok : NOk m
  num : m.num = n.num
  ver : m.ver = n.ver
  kind : m.kind = n.kind
  size : m.size = n.size
  time : m.time = n.time
theorem Q1 (j : Nat) : Sec.zero.l.getD j 0 = 0 := by
  show (List.replicate 128 (0 : Int)).getD j 0 = 0
  rw [List.getD_eq_getElem?_getD, List.getElem?_replicate]; split <;> rfl
def kI : Int × Int → Prop := fun _ => True
theorem tr_cpl {n m : NS} {W X : RS} {H : Int → Prop} {S : Int × Int → Prop} (h : Cpl n W) (hn : TN n m W H S) (hr : TR W X H S) : Cpl m X := by
  refine ⟨hn.num.trans (h.num.trans hr.num.symm), hn.ver.trans (h.ver.trans hr.ver.symm), hn.kind.trans (h.kind.trans hr.kind.symm), hn.size.trans (h.size.trans hr.size.symm), hn.time.trans (h.time.trans hr.time.symm), fun k hk => ?_, fun i hi => ?_, fun k hk h1 => ?_, hn.st1, ?_, hn.ok⟩
  · by_cases hl : y5 W H S k
    · rw [hr.ts.w0 k hk hl]; exact hn.ts.w0 k hk hl
    · rw [hr.ts.w1 k hk hl]; exact hn.ts.w1 k hk hl
  · by_cases hh : H i
    · rw [hn.d0 i hi hh, hr.b0 i hi hh]; rfl
    · rw [hn.d1 i hi hh, hr.b1 i hi hh]; exact h.data i hi
  · exact (hn.ts.s k hk h1).trans (hr.ts.s k hk h1).symm
  · exact (List.perm_ext_iff_of_nodup hn.ts.gn hr.ts.gn).2 fun a => (hn.ts.gm a).trans (hr.ts.gm a).symm
section
variable {W X : RS} {D : Int → Option Sec} {nx : Int} {H : Int → Prop}
theorem XD {i j : Int} : kR i (5, j) ↔ wj i = (5, j) := by
  unfold kR
  constructor
  · rintro (h | h)
    · exact absurd h.1 (by simp)
    · exact h
  · exact .inr
theorem YV {i j : Int} (h : kR i (5, j)) : kR i (4, 0) := .inl ⟨rfl, by rw [XD.1 h]⟩
theorem J7 (hr : TR W X H kI) (k : Int × Int) : j8 X k ↔ Wb W H k := by
  constructor
  · rintro ⟨i, hi, hh, hu⟩
    by_cases hH : H i
    · rw [hr.b0 i hi hH] at hh; cases hh
    · rw [hr.b1 i hi hH] at hh; exact ⟨i, hi, hh, hH, hu⟩
  · rintro ⟨i, hi, hh, hH, hu⟩
    exact ⟨i, hi, by rw [hr.b1 i hi hH]; exact hh, hu⟩
theorem xK (hI : Inv W D nx) {k : Int × Int} (hk : qo k) (h1 : k.1 ≠ 1) (h2 : k.1 ≠ 2) (hl : y5 W H kI k) (hh : qZ W k ≠ 0 ∨ wl W k = true) : ∃ i, H i ∧ kR i k := by
  obtain ⟨i, hi, hb, hu⟩ := hI.kid k hk h1 h2 hh
  have := (j6 h1).1 hl
  by_cases hH : H i
  · exact ⟨i, hH, hu⟩
  · exact absurd ⟨i, hi, hb, hH, hu⟩ this.2.2
theorem Ql (hr : TR W X H kI) {k : Int × Int} (hk : qo k) (h1 : k.1 ≠ 1) (hl : ¬ y5 W H kI k) (h : wl W k = true ∨ Qr H k) : wl X k = true := (hr.ts.s k hk h1).2 ⟨hl, h⟩
theorem QY : ¬ y5 W H kI (2, 0) := fun h => ((j6 (by decide)).1 h).1 rfl
theorem Xu (hI : Inv W D nx) (hr : TR W X H kI) (h : chL W) : chL X ∨ Qr H (4, 0) := by
  obtain ⟨j, h0, h1, hc⟩ := h
  rcases hc with hs | ⟨i, hi, hf, ha⟩
  · by_cases hl : y5 W H kI (5, j)
    · obtain ⟨i, hH, hu⟩ := xK hI (zj ⟨h0, h1⟩) (by simp) (by simp) hl (.inr hs)
      exact .inr ⟨i, hH, .inr (YV hu)⟩
    · exact .inl ⟨j, h0, h1, .inl (Ql hr (zj ⟨h0, h1⟩) (by simp) hl (.inl hs))⟩
  · by_cases hH : H i
    · exact .inr ⟨i, hH, .inr (.inl ⟨rfl, by rw [ha]⟩)⟩
    · exact .inl ⟨j, h0, h1, .inr ⟨i, hi, by rw [hr.b1 i hi hH]; exact hf, ha⟩⟩
theorem J6 (hI : Inv W D nx) (hr : TR W X H kI) {k : Int × Int} (hk : qo k) (hl : ¬ y5 W H kI k) (h : prR W k ∨ (k.1 ≠ 1 ∧ Qr H k)) : prR X k := by
  have hch : ∀ q, qo q → q.1 ≠ 1 → ¬ y5 W H kI q → chB W q ∨ Qr H q → chB X q := by
    rintro q hq h1 hlq ((hs | ⟨i, hi, hf, ha⟩) | hm)
    · exact .inl (Ql hr hq h1 hlq (.inl hs))
    · by_cases hH : H i
      · exact .inl (Ql hr hq h1 hlq (.inr ⟨i, hH, .inr (.inr ha)⟩))
      · exact .inr ⟨i, hi, by rw [hr.b1 i hi hH]; exact hf, ha⟩
    · exact .inl (Ql hr hq h1 hlq (.inr hm))
  have hkid : k.1 ≠ 1 → k.1 ≠ 2 → j8 X k := fun h1 h2 => (J7 hr k).2 (Classical.byContradiction fun e => hl ((j6 h1).2 ⟨h2, trivial, e⟩))
  rcases qz hk with ⟨i, hi, rfl⟩ | rfl | rfl | rfl | ⟨j, hj, rfl⟩
  · have hH : ¬ H i := fun e => hl (ju.2 e)
    rw [kb, hr.b1 i hi hH]
    rcases h with h | h
    · exact kb.1 h
    · exact absurd rfl h.1
  · have hmk : Qr H (2, 0) → prR X (2, 0) := fun hm => Z3 (Ql hr zy (by decide) QY (.inr hm))
    rcases h with h | h
    · have h' := h
      unfold prR at h'
      rw [if_neg (by decide), if_neg (by decide), if_neg (by decide), if_neg (by decide)] at h'
      have hX : ((∃ i, InB i ∧ (X.all i).fresh = true) ∨ wl X (2, 0) = true ∨ wl X (3, 0) = true ∨ wl X (4, 0) = true ∨ chL X) → prR X (2, 0) := fun e => by
        unfold prR; rw [if_neg (by decide), if_neg (by decide), if_neg (by decide), if_neg (by decide)]; exact e
      have m24 : Qr H (4, 0) → Qr H (2, 0) := fun ⟨i, hi, _⟩ => ⟨i, hi, .inl rfl⟩
      rcases h' with ⟨i, hi, hf⟩ | hs | hs | hs | hc
      · by_cases hH : H i
        · exact hmk ⟨i, hH, .inl rfl⟩
        · exact hX (.inl ⟨i, hi, by rw [hr.b1 i hi hH]; exact hf⟩)
      · exact hX (.inr (.inl (Ql hr zy (by decide) QY (.inl hs))))
      · by_cases hl3 : y5 W H kI (3, 0)
        · obtain ⟨i, hH, -⟩ := xK hI zE (by decide) (by decide) hl3 (.inr hs)
          exact hmk ⟨i, hH, .inl rfl⟩
        · exact hX (.inr (.inr (.inl (Ql hr zE (by decide) hl3 (.inl hs)))))
      · by_cases hl4 : y5 W H kI (4, 0)
        · obtain ⟨i, hH, -⟩ := xK hI zI (by decide) (by decide) hl4 (.inr hs)
          exact hmk ⟨i, hH, .inl rfl⟩
        · exact hX (.inr (.inr (.inr (.inl (Ql hr zI (by decide) hl4 (.inl hs))))))
      · rcases Xu hI hr hc with hc | hm
        · exact hX (.inr (.inr (.inr (.inr hc))))
        · exact hmk (m24 hm)
    · exact hmk h.2
  · unfold prR; rw [if_neg (by decide), if_neg (by decide), if_pos rfl]
    refine ⟨hch _ zE (by decide) hl ?_, hkid (by decide) (by decide)⟩
    rcases h with h | h
    · unfold prR at h; rw [if_neg (by decide), if_neg (by decide), if_pos rfl] at h; exact .inl h.1
    · exact .inr h.2
  · unfold prR; rw [if_neg (by decide), if_neg (by decide), if_neg (by decide), if_pos rfl]
    refine ⟨?_, hkid (by decide) (by decide)⟩
    rcases h with h | h
    · unfold prR at h; rw [if_neg (by decide), if_neg (by decide), if_neg (by decide), if_pos rfl] at h
      rcases h.1 with hs | hc
      · exact .inl (Ql hr zI (by decide) hl (.inl hs))
      · rcases Xu hI hr hc with hc | hm
        · exact .inr hc
        · exact .inl (Ql hr zI (by decide) hl (.inr hm))
    · exact .inl (Ql hr zI (by decide) hl (.inr h.2))
  · unfold prR; rw [if_neg (by simp), if_pos rfl]
    refine ⟨hch _ (zj hj) (by simp) hl ?_, hkid (by simp) (by simp)⟩
    rcases h with h | h
    · unfold prR at h; rw [if_neg (by simp), if_pos rfl] at h; exact .inl h.1
    · exact .inr h.2
theorem tr_inv (hI : Inv W D nx) (hHi : ∀ i, H i → InB i) (hr : TR W X H kI) : Inv X D nx := by
  have hw0 := hr.ts.w0
  have hw1 := hr.ts.w1
  have hnl : ∀ k, qo k → qZ X k ≠ 0 → ¬ y5 W H kI k := fun k hk h hl => h (hw0 k hk hl)
  have hwX : ∀ k, qo k → qZ X k ≠ 0 → qZ X k = qZ W k := fun k hk h => hw1 k hk (hnl k hk h)
  refine ⟨?_, ?_, ?_, ?_, ?_, ?_, ?_, hr.ts.gn, ?_, ?_, ?_, ?_, ?_, ?_, ?_, ?_, ?_, ?_, hI.nx⟩
  · intro i hi
    by_cases hH : H i
    · rw [hr.b0 i hi hH]; simp [Blk.zero]
    · rw [hr.b1 i hi hH]; exact hI.has i hi
  · intro i hi hh
    by_cases hH : H i
    · rw [hr.b0 i hi hH]; rfl
    · rw [hr.b1 i hi hH] at hh ⊢; exact hI.hole i hi hh
  · intro k hk h1 h2 h
    rw [J7 hr]
    have hl : ¬ y5 W H kI k := by
      rcases h with h | h
      · exact hnl k hk h
      · exact ((hr.ts.s k hk h1).1 h).1
    exact Classical.byContradiction fun e => hl ((j6 h1).2 ⟨h2, trivial, e⟩)
  · intro k hk h1 hkid
    have hl : ¬ y5 W H kI k := fun hl => by
      have := (j6 h1).1 hl
      exact this.2.2 ((J7 hr k).1 (hkid this.1))
    rw [hw1 k hk hl]
    refine (hI.place k hk h1 (fun h2 => ?_)).imp id (fun h => J6 hI hr hk hl (.inl h))
    obtain ⟨i, hi, hb, -, hu⟩ := (J7 hr k).1 (hkid h2)
    exact ⟨i, hi, hb, hu⟩
  · intro k hk h; have e := hwX k hk h; rw [e] at h ⊢; exact hI.rngA k hk h
  · intro a ha
    rcases (hr.ts.gm a).1 ha with h | ⟨k, hk, -, e, h0⟩
    · exact hI.rngG a h
    · have := hI.rngA k hk (by rw [e]; exact h0); rw [e] at this; exact this
  · intro k q hk hq h e
    have h2 : qZ X q ≠ 0 := by rw [← e]; exact h
    have e1 := hwX k hk h
    have e2 := hwX q hq h2
    rw [e1] at h e
    rw [e2] at e
    exact hI.inj k q hk hq h e
  · intro a ha k hk e
    have h0 : a ≠ 0 := by
      rcases (hr.ts.gm a).1 ha with h | ⟨q, -, -, -, h0⟩
      · have := hI.rngG a h; omega
      · exact h0
    have hx : qZ X k ≠ 0 := by rw [e]; exact h0
    have hwk := hwX k hk hx
    rcases (hr.ts.gm a).1 ha with h | ⟨q, hq, hl, eq, -⟩
    · exact hI.gdj a h k hk (by rw [← hwk, e])
    · have : q = k := hI.inj q k hq hk (by rw [eq]; exact h0) (by rw [eq, ← hwk, e])
      exact hnl k hk hx (this ▸ hl)
  · intro k hk h0 hnp
    have hl := hnl k hk h0
    have hnpW : ¬ prR W k := fun e => hnp (J6 hI hr hk hl (.inl e))
    have hnm : k.1 ≠ 1 → ¬ Qr H k := fun h1 hm => hnp (J6 hI hr hk hl (.inr ⟨h1, hm⟩))
    have hwk := hwX k hk h0
    rw [hwk, hI.disk k hk (by rw [← hwk]; exact h0) hnpW]
    congr 1
    have hblk : ∀ i, InB i → ¬ H i → qZ X (1, i) = qZ W (1, i) := fun i hi hH => hw1 _ (zz hi) (fun e => hH (ju.1 e))
    rcases qz hk with ⟨i, hi, rfl⟩ | rfl | rfl | rfl | ⟨j, hj, rfl⟩
    · rw [yD, yD, hr.b1 i hi (fun e => hl (ju.2 e))]
    · have hH : ∀ i, ¬ H i := fun i e => hnm (by decide) ⟨i, e, .inl rfl⟩
      refine (x9 (fun q hq => ?_) hr.num hr.ver hr.kind hr.size hr.time).symm
      by_cases hlq : y5 W H kI q
      · rw [hw0 q hq hlq]
        refine Classical.byContradiction fun e => ?_
        by_cases q1 : q.1 = 1
        · rcases hlq with h | h
          · exact hH _ h.2
          · exact h.1 q1
        · obtain ⟨i, hi, -⟩ := xK hI hq q1 ((j6 q1).1 hlq).1 hlq (.inl (fun e2 => e e2.symm))
          exact hH i hi
      · exact hw1 q hq hlq
    · have : zZ X (z6 1 0) = zZ W (z6 1 0) := by
        unfold zZ
        refine List.map_congr_left fun j hj => ?_
        have hj := List.mem_range.1 hj
        unfold z6
        rw [if_neg (by decide), if_pos rfl]
        refine hblk _ ⟨by omega, by omega⟩ (fun e => hnm (by decide) ⟨_, e, .inr (.inr (WI.2 (by unfold w8; rw [if_neg (by omega), if_neg (by omega), if_pos (by omega)])))⟩)
      unfold wd
      rw [if_neg (by decide), if_neg (by decide), if_pos rfl, if_neg (by decide), if_neg (by decide), if_pos rfl, this]
    · have : zZ X (fun j => (5, j)) = zZ W (fun j => (5, j)) := by
        unfold zZ
        refine List.map_congr_left fun j hj => ?_
        have hj := List.mem_range.1 hj
        by_cases hlq : y5 W H kI (5, (j : Int))
        · rw [hw0 _ (jr j hj) hlq]
          refine Classical.byContradiction fun e => ?_
          obtain ⟨i, hi, hu⟩ := xK hI (jr j hj) (by simp) (by simp) hlq (.inl (fun e2 => e e2.symm))
          exact hnm (by decide) ⟨i, hi, .inr (YV hu)⟩
        · exact hw1 _ (jr j hj) hlq
      unfold wd
      rw [if_neg (by decide), if_neg (by decide), if_neg (by decide), if_pos rfl, if_neg (by decide), if_neg (by decide), if_neg (by decide), if_pos rfl, this]
    · have : zZ X (z6 2 j) = zZ W (z6 2 j) := by
        unfold zZ
        refine List.map_congr_left fun m hm => ?_
        have hm := List.mem_range.1 hm
        unfold z6
        rw [if_neg (by decide), if_neg (by decide)]
        refine hblk _ ⟨by omega, by omega⟩ (fun e => hnm (by simp) ⟨_, e, .inr (XD.2 (WH.2 (by unfold w8; rw [if_neg (by omega), if_neg (by omega), if_neg (by omega), if_pos (by omega)]; exact ⟨rfl, by dsimp only; omega⟩)))⟩)
      unfold wd
      rw [if_neg (by simp), if_pos rfl, if_neg (by simp), if_pos rfl]
      exact congrArg We this.symm
  · intro a
    rw [hI.keys a, hr.ts.gm a]
    constructor
    · rintro (h | ⟨k, hk, e, h0⟩)
      · exact .inl (.inl h)
      · by_cases hl : y5 W H kI k
        · exact .inl (.inr ⟨k, hk, hl, e, h0⟩)
        · exact .inr ⟨k, hk, by rw [hw1 k hk hl]; exact e, h0⟩
    · rintro ((h | ⟨k, hk, -, e, h0⟩) | ⟨k, hk, e, h0⟩)
      · exact .inl h
      · exact .inr ⟨k, hk, e, h0⟩
      · exact .inr ⟨k, hk, by rw [← hwX k hk (by rw [e]; exact h0)]; exact e, h0⟩
  · intro hg
    refine Ql (k := (2, 0)) hr zy (by decide) QY ?_
    obtain ⟨a, ha⟩ := List.exists_mem_of_ne_nil _ hg
    rcases (hr.ts.gm a).1 ha with h | ⟨k, hk, hl, e, h0⟩
    · exact .inl (hI.gone (fun e => by rw [e] at h; cases h))
    · right
      by_cases k1 : k.1 = 1
      · rcases hl with hl | hl
        · exact ⟨k.2, hl.2, .inl rfl⟩
        · exact absurd k1 hl.1
      · obtain ⟨i, hi, -⟩ := xK hI hk k1 ((j6 k1).1 hl).1 hl (.inl (by rw [e]; exact h0))
        exact ⟨i, hi, .inl rfl⟩
  · intro i hi j hj hle
    by_cases hH : H i
    · rw [hr.b0 i hi hH]; exact Q1 j
    · rw [hr.b1 i hi hH]; rw [hr.size] at hle; exact hI.zero i hi j hj hle
  · rw [hr.num]; exact hI.num
  · rw [hr.ver]; exact hI.ver
  · rw [hr.kind]; exact hI.kind
  · rw [hr.size]; exact hI.size
  · rw [hr.time]; exact hI.time
end
section
variable {n m : NS} {W X : RS} {D : Int → Option Sec} {nx : Int} {H : Int → Prop} {S : Int × Int → Prop}
theorem Kg {k : Int × Int} : Wb W (fun _ => False) k ↔ j8 W k := by
  unfold Wb j8
  constructor
  · rintro ⟨i, h1, h2, -, h4⟩; exact ⟨i, h1, h2, h4⟩
  · rintro ⟨i, h1, h2, h4⟩; exact ⟨i, h1, h2, id, h4⟩
theorem KG (hI : Inv W D nx) {w : Int × Int → Int} {s : Int × Int → Prop} {g : List Int} (hw : ∀ k, qo k → w k = qZ W k) (hs : ∀ k, qo k → k.1 ≠ 1 → (s k ↔ wl W k = true)) (hg : g.Perm W.gone) : TS W (fun _ => False) S w s g := by
  have hl : ∀ k, qo k → y5 W (fun _ => False) S k → k.1 ≠ 1 ∧ qZ W k = 0 ∧ wl W k = false := by
    intro k hk h
    rcases h with h | ⟨h1, h2, -, h4⟩
    · exact h.2.elim
    · refine ⟨h1, Classical.byContradiction fun e => h4 (Kg.2 (hI.kid k hk h1 h2 (.inl e))), ?_⟩
      cases e : wl W k with
      | false => rfl
      | true => exact absurd (Kg.2 (hI.kid k hk h1 h2 (.inr e))) h4
  refine ⟨fun k hk h => (hw k hk).trans (hl k hk h).2.1, fun k hk _ => hw k hk, fun k hk h1 => ?_, hg.nodup_iff.2 hI.gnd, fun a => ?_⟩
  · rw [hs k hk h1]
    constructor
    · intro h; exact ⟨fun e => (by rw [(hl k hk e).2.2] at h; cases h), .inl h⟩
    · rintro ⟨-, h | ⟨i, h, -⟩⟩
      · exact h
      · exact h.elim
  · rw [hg.mem_iff]
    constructor
    · exact .inl
    · rintro (h | ⟨k, hk, h, e, h0⟩)
      · exact h
      · exact absurd ((hl k hk h).2.1) (by rw [e]; exact h0)
theorem TN.start (h : Cpl n W) (hI : Inv W D nx) : TN n n W (fun _ => False) kI :=
  ⟨KG hI h.at_ h.stale h.gone, fun _ _ e => e.elim, fun _ _ _ => rfl, h.stale1, h.ok, rfl, rfl, rfl, rfl, rfl⟩
theorem TR.start (hI : Inv W D nx) : TR W W (fun _ => False) (fun _ => False) :=
  ⟨KG hI (fun _ _ => rfl) (fun _ _ _ => Iff.rfl) (List.Perm.refl _), fun _ _ e => e.elim, fun _ _ _ => rfl, rfl, rfl, rfl, rfl, rfl⟩
theorem TN.has (h : Cpl n W) (hI : Inv W D nx) (hN : TN n m W H S) {i : Int} (hi : InB i) : jk m i ↔ ((W.all i).has = true ∧ ¬ H i) := by
  by_cases hH : H i
  · unfold jk
    have := hN.ts.w0 (1, i) (zz hi) (ju.2 hH)
    rw [hN.d0 i hi hH]
    simp [this, hH]
  · have := hN.ts.w1 (1, i) (zz hi) (fun e => hH (ju.1 e))
    have h2 : jk m i ↔ jk n i := by
      unfold jk
      rw [hN.d1 i hi hH, this, h.at_ _ (zz hi)]
    rw [h2, h.hasN_iff hI.has hi]
    simp [hH]
theorem TN.kids (h : Cpl n W) (hI : Inv W D nx) (hN : TN n m W H S) (k : Int × Int) : Qs m k = true ↔ Wb W H k := by
  have hmem : ∀ i, i ∈ jb m ↔ InB i ∧ (W.all i).has = true ∧ ¬ H i := by
    intro i
    unfold jb
    rw [List.mem_filter, decide_eq_true_eq]
    have : i ∈ (List.range 1064).map (fun i : Nat => (i : Int)) ↔ InB i := zl (n := 1064)
    rw [this]
    constructor
    · rintro ⟨hi, hh⟩; exact ⟨hi, (hN.has h hI hi).1 hh⟩
    · rintro ⟨hi, hh⟩; exact ⟨hi, (hN.has h hI hi).2 hh⟩
  unfold Qs Wb kR
  by_cases e : k = (4, 0)
  · rw [if_pos e, List.any_eq_true]
    constructor
    · rintro ⟨i, hi, h5⟩
      have := (hmem i).1 hi
      exact ⟨i, this.1, this.2.1, this.2.2, .inl ⟨e, by simpa using h5⟩⟩
    · rintro ⟨i, hi, h1, h2, h3 | h3⟩
      · exact ⟨i, (hmem i).2 ⟨hi, h1, h2⟩, by simpa using h3.2⟩
      · exact absurd (h3.trans e) (xL i)
  · rw [if_neg e, List.any_eq_true]
    constructor
    · rintro ⟨i, hi, h5⟩
      have := (hmem i).1 hi
      exact ⟨i, this.1, this.2.1, this.2.2, .inr (by simpa using h5)⟩
    · rintro ⟨i, hi, h1, h2, h3 | h3⟩
      · exact absurd h3.1 e
      · exact ⟨i, (hmem i).2 ⟨hi, h1, h2⟩, by simpa using h3⟩
theorem TN.loseIf (h : Cpl n W) (hI : Inv W D nx) (hN : TN n m W H S) {q : Int × Int} (hq : qo q) (h1 : q.1 ≠ 1) (h2 : q.1 ≠ 2) : TN n (loseIf m q) W H (fun k => S k ∨ k = q) := by
  unfold Proofs.YtjikpomndbkfgaaGreatDoor.loseIf
  by_cases hk : Qs m q = true
  · rw [if_pos hk]
    exact { hN with ts := hN.ts.keep ((hN.kids h hI q).1 hk) }
  · rw [if_neg hk]
    refine ⟨?_, hN.d0, hN.d1, fun i => ?_, hN.ok.lose q, hN.num, hN.ver, hN.kind, hN.size, hN.time⟩
    · refine hN.ts.lose hI hq h1 h2 (fun e => hk ((hN.kids h hI q).2 e)) (fun k _ => ?_) (fun k _ _ => ?_) rfl
      · show (upd m.at_ q none k).getD 0 = _
        unfold upd; split
        · rfl
        · rfl
      · show upd m.stale q none k ≠ none ↔ _
        unfold upd; split
        · rename_i e; simp [e]
        · rename_i e; simp [e]
    · show upd m.stale q none (1, i) = none
      rw [wI _ _ (fun e => h1 (by rw [← e]))]; exact hN.st1 i
theorem TN.core (hI : Inv W D nx) (hN : TN n m W H S) {i : Int} (hi : InB i) (hn : ¬ H i) (hS : ∀ p, qo p → p.1 ≠ 1 → p.1 ≠ 2 → S p → ¬ kR i p) {m' : NS}
    (ha : m'.at_ = upd m.at_ (1, i) none) (hd : m'.data = upd m.data i none) (hs : ∀ k, k.1 ≠ 1 → (m'.stale k ≠ none ↔ m.stale k ≠ none ∨ k = (2, 0) ∨ kR i k)) (hs1 : ∀ j, m'.stale (1, j) = none)
    (hg : m'.gone = if (m.at_ (1, i)).getD 0 ≠ 0 then m.gone ++ [(m.at_ (1, i)).getD 0] else m.gone) (hok : NOk m') (e1 : m'.num = m.num) (e2 : m'.ver = m.ver) (e3 : m'.kind = m.kind) (e4 : m'.size = m.size) (e5 : m'.time = m.time) :
    TN n m' W (fun j => H j ∨ j = i) S := by
  refine ⟨hN.ts.hole hI hi hn hS (fun k _ => ?_) (fun k _ h1 => hs k h1) hg, fun j hj hh => ?_, fun j hj hh => ?_, hs1, hok, e1.trans hN.num, e2.trans hN.ver, e3.trans hN.kind, e4.trans hN.size, e5.trans hN.time⟩
  · rw [ha]; unfold upd; split <;> rfl
  · rw [hd]
    by_cases e : j = i
    · rw [e, wx]
    · rw [wI _ _ e]; exact hN.d0 j hj (hh.resolve_right e)
  · rw [hd, wI _ _ (fun e => hh (.inr e))]; exact hN.d1 j hj (fun e => hh (.inl e))
theorem WN {K β : Type} [DecidableEq K] {f : K → Option β} {q k : K} {v : β} : upd f q (some v) k ≠ none ↔ f k ≠ none ∨ k = q := by
  unfold upd; split
  · rename_i e; simp [e]
  · rename_i e; simp [e]
theorem XC {f : Int × Int → Option Int} {i : Int} {k : Int × Int} (h : k.1 ≠ 1) : upd f (1, i) none k = f k := wI _ _ (fun e => h (by rw [e]))
theorem setData_ok (h : NOk m) (i : Int) : NOk (zT m i none) := by
  refine ⟨fun j hj => h.data j (fun e => hj ?_), h.at1, h.at2, h.stale⟩
  show upd m.data i none j = none
  unfold upd; split
  · rfl
  · exact e
theorem TN.hole (h : Cpl n W) (hI : Inv W D nx) (hN : TN n m W H kI) {i : Int} (hi : InB i) (hh : (W.all i).has = true) (hn : ¬ H i) : TN n (jM m i) W (fun j => H j ∨ j = i) kI := by
  have hok1 : NOk (kT (zT m i none) (1, i)) := (setData_ok hN.ok i).lose _
  have hok2 : NOk (setStale (kT (zT m i none) (1, i)) (2, 0)) := hok1.setStale zy
  have hs1 : ∀ j, upd m.stale (1, i) none (1, j) = none := fun j => by
    unfold upd; split
    · rfl
    · exact hN.st1 j
  have hkid : ∀ k, kR i k → Wb W H k := fun k hu => ⟨i, hi, hh, hn, hu⟩
  unfold jM
  rcases WG hi with e | e | ⟨j, hj, e⟩
  · rw [if_pos e]
    refine hN.core hI hi hn (fun p hp h1 h2 _ hu => ?_) rfl rfl (fun k h1 => ?_) (fun j => ?_) rfl hok2 rfl rfl rfl rfl rfl
    · rcases hu with hu | hu
      · rw [e] at hu; exact absurd hu.2 (by decide)
      · rw [e] at hu; exact h2 (by rw [← hu])
    · show upd (upd m.stale (1, i) none) (2, 0) (some 1) k ≠ none ↔ _
      rw [WN, XC h1]
      unfold kR
      rw [e]
      constructor
      · rintro (h | h)
        · exact .inl h
        · exact .inr (.inl h)
      · rintro (h | h | h | h)
        · exact .inl h
        · exact .inr h
        · exact absurd h.2 (by decide)
        · exact .inr h.symm
    · show upd (upd m.stale (1, i) none) (2, 0) (some 1) (1, j) = none
      rw [wI _ _ (by simp)]; exact hs1 j
  · rw [if_neg (by rw [e]; decide), e, if_neg (by decide)]
    simp only [List.foldl_cons, List.foldl_nil]
    have hun : ∀ k, kR i k ↔ k = (3, 0) := fun k => by
      unfold kR; rw [e]
      constructor
      · rintro (h | h)
        · exact absurd h.2 (by decide)
        · exact h.symm
      · intro h; exact .inr h.symm
    have hd : TN n m W H (fun k => kI k ∧ ¬ k = (3, 0)) := { hN with ts := hN.ts.drop (P := fun k => k = (3, 0)) (fun q hq => hkid q ((hun q).2 hq)) }
    have hc := hd.core hI hi hn (m' := setStale (setStale (kT (zT m i none) (1, i)) (2, 0)) (3, 0)) (fun p hp h1 h2 h3 hu => h3.2 ((hun p).1 hu)) rfl rfl (fun k h1 => by
      show upd (upd (upd m.stale (1, i) none) (2, 0) (some 1)) (3, 0) (some 1) k ≠ none ↔ _
      rw [WN, WN, XC h1, hun k]
      constructor
      · rintro ((h | h) | h)
        · exact .inl h
        · exact .inr (.inl h)
        · exact .inr (.inr h)
      · rintro (h | h | h)
        · exact .inl (.inl h)
        · exact .inl (.inr h)
        · exact .inr h) (fun j => by
      show upd (upd (upd m.stale (1, i) none) (2, 0) (some 1)) (3, 0) (some 1) (1, j) = none
      rw [wI _ _ (by simp), wI _ _ (by simp)]; exact hs1 j) rfl (hok2.setStale zE) rfl rfl rfl rfl rfl
    have hf := (hc.loseIf h hI zE (by decide) (by decide)).loseIf h hI zI (by decide) (by decide)
    exact { hf with ts := hf.ts.sets (fun k hk => or_congr Iff.rfl (and_congr Iff.rfl (and_congr Iff.rfl (and_congr ⟨fun _ => by
      by_cases e3 : k = (3, 0)
      · exact .inl (.inr e3)
      · exact .inl (.inl ⟨trivial, e3⟩), fun _ => trivial⟩ Iff.rfl)))) }
  · rw [if_neg (by rw [e]; simp), e, if_pos rfl]
    simp only [List.foldl_cons, List.foldl_nil]
    have hun : ∀ k, kR i k ↔ (k = (5, j) ∨ k = (4, 0)) := fun k => by
      unfold kR; rw [e]
      constructor
      · rintro (h | h)
        · exact .inr h.1
        · exact .inl h.symm
      · rintro (h | h)
        · exact .inr h.symm
        · exact .inl ⟨h, rfl⟩
    have hd : TN n m W H (fun k => kI k ∧ ¬ (k = (5, j) ∨ k = (4, 0))) := { hN with ts := hN.ts.drop (P := fun k => k = (5, j) ∨ k = (4, 0)) (fun q hq => hkid q ((hun q).2 hq)) }
    have hc := hd.core hI hi hn (m' := setStale (setStale (setStale (kT (zT m i none) (1, i)) (2, 0)) (5, j)) (4, 0)) (fun p hp h1 h2 h3 hu => h3.2 ((hun p).1 hu)) rfl rfl (fun k h1 => by
      show upd (upd (upd (upd m.stale (1, i) none) (2, 0) (some 1)) (5, j) (some 1)) (4, 0) (some 1) k ≠ none ↔ _
      rw [WN, WN, WN, XC h1, hun k]
      constructor
      · rintro (((h | h) | h) | h)
        · exact .inl h
        · exact .inr (.inl h)
        · exact .inr (.inr (.inl h))
        · exact .inr (.inr (.inr h))
      · rintro (h | h | h | h)
        · exact .inl (.inl (.inl h))
        · exact .inl (.inl (.inr h))
        · exact .inl (.inr h)
        · exact .inr h) (fun j' => by
      show upd (upd (upd (upd m.stale (1, i) none) (2, 0) (some 1)) (5, j) (some 1)) (4, 0) (some 1) (1, j') = none
      rw [wI _ _ (by simp), wI _ _ (by simp), wI _ _ (by simp)]; exact hs1 j') rfl ((hok2.setStale (zj hj)).setStale zI) rfl rfl rfl rfl rfl
    have hf := (hc.loseIf h hI (zj hj) (by simp) (by simp)).loseIf h hI zI (by decide) (by decide)
    exact { hf with ts := hf.ts.sets (fun k hk => or_congr Iff.rfl (and_congr Iff.rfl (and_congr Iff.rfl (and_congr ⟨fun _ => by
      by_cases e5 : k = (5, j)
      · exact .inl (.inr e5)
      · by_cases e4 : k = (4, 0)
        · exact .inr e4
        · exact .inl (.inl ⟨trivial, fun e => e.elim e5 e4⟩), fun _ => trivial⟩ Iff.rfl)))) }
theorem TN.holes (h : Cpl n W) (hI : Inv W D nx) (P : Int) : ∀ (l : List Int) (m : NS) (H : Int → Prop), TN n m W H kI → (∀ i ∈ l, InB i ∧ (W.all i).has = true ∧ ¬ H i) → l.Nodup →
    TN n (l.foldl (fun m i => if P < i then jM m i else m) m) W (fun j => H j ∨ (j ∈ l ∧ P < j)) kI := by
  intro l
  induction l with
  | nil =>
    intro m H hN _ _
    have : (fun j => H j ∨ (j ∈ ([] : List Int) ∧ P < j)) = H := by funext j; simp
    rw [this]; exact hN
  | cons i l ih =>
    intro m H hN hl hnd
    have hnd' := List.nodup_cons.1 hnd
    rw [List.foldl_cons]
    have hi := hl i (by simp)
    by_cases hP : P < i
    · rw [if_pos hP]
      have := ih (jM m i) (fun j => H j ∨ j = i) (hN.hole h hI hi.1 hi.2.1 hi.2.2) (fun j hj => ?_) hnd'.2
      · have e : (fun j => H j ∨ (j ∈ i :: l ∧ P < j)) = (fun j => (H j ∨ j = i) ∨ (j ∈ l ∧ P < j)) := by
          funext j
          refine propext ⟨?_, ?_⟩
          · rintro (h | ⟨h1, h2⟩)
            · exact .inl (.inl h)
            · rcases List.mem_cons.1 h1 with h1 | h1
              · exact .inl (.inr h1)
              · exact .inr ⟨h1, h2⟩
          · rintro ((h | h) | ⟨h1, h2⟩)
            · exact .inl h
            · exact .inr ⟨by rw [h]; simp, by rw [h]; exact hP⟩
            · exact .inr ⟨by simp [h1], h2⟩
        rw [e]; exact this
      · have := hl j (by simp [hj])
        exact ⟨this.1, this.2.1, fun e => e.elim this.2.2 (fun e2 => hnd'.1 (e2 ▸ hj))⟩
    · rw [if_neg hP]
      have := ih m H hN (fun j hj => hl j (by simp [hj])) hnd'.2
      have e : (fun j => H j ∨ (j ∈ i :: l ∧ P < j)) = (fun j => H j ∨ (j ∈ l ∧ P < j)) := by
        funext j
        refine propext ⟨?_, ?_⟩
        · rintro (h | ⟨h1, h2⟩)
          · exact .inl h
          · rcases List.mem_cons.1 h1 with h1 | h1
            · exact absurd (h1 ▸ h2) hP
            · exact .inr ⟨h1, h2⟩
        · rintro (h | ⟨h1, h2⟩)
          · exact .inl h
          · exact .inr ⟨by simp [h1], h2⟩
      rw [e]; exact this
end
section
variable {W X : RS} {D : Int → Option Sec} {nx : Int} {H : Int → Prop} {S : Int × Int → Prop}
theorem TR.kid (hr : TR W X H S) (k : Int × Int) : j8 X k ↔ Wb W H k := by
  constructor
  · rintro ⟨i, hi, hh, hu⟩
    by_cases hH : H i
    · rw [hr.b0 i hi hH] at hh; cases hh
    · rw [hr.b1 i hi hH] at hh; exact ⟨i, hi, hh, hH, hu⟩
  · rintro ⟨i, hi, hh, hH, hu⟩
    exact ⟨i, hi, by rw [hr.b1 i hi hH]; exact hh, hu⟩
theorem holeR_wh (X : RS) {i : Int} (hi : InB i) {k : Int × Int} (hk : qo k) : qZ (jw X i) k = if k = (1, i) then 0 else qZ X k := by
  rcases qz hk with ⟨j, hj, rfl⟩ | rfl | rfl | rfl | ⟨j, hj, rfl⟩
  · rw [zo, zo]
    show (upd X.all i Blk.zero j).at_ = _
    unfold upd
    by_cases e : j = i
    · rw [if_pos e, if_pos (by rw [e])]; rfl
    · rw [if_neg e, if_neg (by simpa using e)]
  · rw [if_neg (by simp)]; rfl
  · rw [if_neg (by simp)]
    show (if (w8 i).1 = 1 then (⟨X.sg.at_, true⟩ : zk) else X.sg).at_ = _
    split <;> rfl
  · rw [if_neg (by simp)]
    show (if (w8 i).1 = 2 then (⟨X.db.at_, true⟩ : zk) else X.db).at_ = _
    split <;> rfl
  · rw [if_neg (by simp), kF, kF]
    show ((if (w8 i).1 = 2 then upd X.leaves (w8 i).2.1 ⟨(X.leaves (w8 i).2.1).at_, true⟩ else X.leaves) j).at_ = _
    split
    · unfold upd; split
      · rename_i e; rw [e]
      · rfl
    · rfl
theorem holeR_st (X : RS) {i : Int} (hi : InB i) {k : Int × Int} (hk : qo k) (h1 : k.1 ≠ 1) : wl (jw X i) k = true ↔ (wl X k = true ∨ k = (2, 0) ∨ kR i k) := by
  rcases qz hk with ⟨j, hj, rfl⟩ | rfl | rfl | rfl | ⟨j, hj, rfl⟩
  · exact absurd rfl h1
  · constructor
    · intro _; exact .inr (.inl rfl)
    · intro _; rfl
  · show (if (w8 i).1 = 1 then (⟨X.sg.at_, true⟩ : zk) else X.sg).stale = true ↔ _
    have hu : kR i (3, 0) ↔ (w8 i).1 = 1 := by
      unfold kR; rw [WI]
      constructor
      · rintro (h | h)
        · exact absurd h.1 (by decide)
        · exact h
      · exact .inr
    rw [hu]
    by_cases e : (w8 i).1 = 1
    · rw [if_pos e]; simp [e]
    · rw [if_neg e]; simp [e]; rfl
  · show (if (w8 i).1 = 2 then (⟨X.db.at_, true⟩ : zk) else X.db).stale = true ↔ _
    have hu : kR i (4, 0) ↔ (w8 i).1 = 2 := by
      unfold kR; rw [JV]
      constructor
      · rintro (h | h)
        · exact h.2
        · exact absurd h (xL i)
      · intro h; exact .inl ⟨rfl, h⟩
    rw [hu]
    by_cases e : (w8 i).1 = 2
    · rw [if_pos e]; simp [e]
    · rw [if_neg e]; simp [e]; rfl
  · unfold wl
    rw [if_pos rfl, if_pos rfl]
    show ((if (w8 i).1 = 2 then upd X.leaves (w8 i).2.1 ⟨(X.leaves (w8 i).2.1).at_, true⟩ else X.leaves) j).stale = true ↔ _
    rw [XD, WH]
    by_cases e : (w8 i).1 = 2
    · rw [if_pos e]; unfold upd
      by_cases e2 : j = (w8 i).2.1
      · rw [if_pos e2]; simp [e, e2]
      · rw [if_neg e2]; simp [e, Ne.symm e2]
    · rw [if_neg e]; simp [e]
theorem TR.hole (hI : Inv W D nx) (hr : TR W X H (fun _ => False)) {i : Int} (hi : InB i) (hn : ¬ H i) : TR W (jw X i) (fun j => H j ∨ j = i) (fun _ => False) := by
  refine ⟨hr.ts.hole hI hi hn (fun _ _ _ _ h => h.elim) (fun k hk => holeR_wh X hi hk) (fun k hk h1 => holeR_st X hi hk h1) rfl, fun j hj hh => ?_, fun j hj hh => ?_, hr.num, hr.ver, hr.kind, hr.size, hr.time⟩
  · show upd X.all i Blk.zero j = _
    by_cases e : j = i
    · rw [e, wx]
    · rw [wI _ _ e]; exact hr.b0 j hj (hh.resolve_right e)
  · show upd X.all i Blk.zero j = _
    rw [wI _ _ (fun e => hh (.inr e))]; exact hr.b1 j hj (fun e => hh (.inl e))
theorem TR.holes (hI : Inv W D nx) : ∀ (l : List Int) (X : RS) (b : Bool) (H : Int → Prop), TR W X H (fun _ => False) → (∀ i ∈ l, InB i ∧ ¬ H i) → l.Nodup →
    TR W (l.foldl yG (X, b)).1 (fun j => H j ∨ (j ∈ l ∧ (W.all j).has = true)) (fun _ => False) ∧ ((l.foldl yG (X, b)).2 = true ↔ (b = true ∨ ∃ j ∈ l, (W.all j).has = true)) := by
  intro l
  induction l with
  | nil =>
    intro X b H hr _ _
    have : (fun j => H j ∨ (j ∈ ([] : List Int) ∧ (W.all j).has = true)) = H := by funext j; simp
    rw [this]; exact ⟨hr, by simp⟩
  | cons i l ih =>
    intro X b H hr hl hnd
    have hnd' := List.nodup_cons.1 hnd
    have hi := hl i (by simp)
    rw [List.foldl_cons]
    have hX : X.all i = W.all i := hr.b1 i hi.1 hi.2
    by_cases hh : (W.all i).has = true
    · have hst : yG (X, b) i = (jw X i, true) := by unfold yG; rw [if_pos (by dsimp only; rw [hX]; exact hh)]
      rw [hst]
      have := ih (jw X i) true (fun j => H j ∨ j = i) (hr.hole hI hi.1 hi.2) (fun j hj => ⟨(hl j (by simp [hj])).1, fun e => e.elim (hl j (by simp [hj])).2 (fun e2 => hnd'.1 (e2 ▸ hj))⟩) hnd'.2
      have e : (fun j => H j ∨ (j ∈ i :: l ∧ (W.all j).has = true)) = (fun j => (H j ∨ j = i) ∨ (j ∈ l ∧ (W.all j).has = true)) := by
        funext j
        refine propext ⟨?_, ?_⟩
        · rintro (h | ⟨h1, h2⟩)
          · exact .inl (.inl h)
          · rcases List.mem_cons.1 h1 with h1 | h1
            · exact .inl (.inr h1)
            · exact .inr ⟨h1, h2⟩
        · rintro ((h | h) | ⟨h1, h2⟩)
          · exact .inl h
          · exact .inr ⟨by rw [h]; simp, by rw [h]; exact hh⟩
          · exact .inr ⟨by simp [h1], h2⟩
      rw [e]
      refine ⟨this.1, this.2.trans ⟨fun _ => .inr ⟨i, by simp, hh⟩, fun _ => .inl rfl⟩⟩
    · have hst : yG (X, b) i = (X, b) := by unfold yG; rw [if_neg (by dsimp only; rw [hX]; exact hh)]
      rw [hst]
      have := ih X b H hr (fun j hj => hl j (by simp [hj])) hnd'.2
      have e : (fun j => H j ∨ (j ∈ i :: l ∧ (W.all j).has = true)) = (fun j => H j ∨ (j ∈ l ∧ (W.all j).has = true)) := by
        funext j
        refine propext ⟨?_, ?_⟩
        · rintro (h | ⟨h1, h2⟩)
          · exact .inl h
          · rcases List.mem_cons.1 h1 with h1 | h1
            · exact absurd (h1 ▸ h2) hh
            · exact .inr ⟨h1, h2⟩
        · rintro (h | ⟨h1, h2⟩)
          · exact .inl h
          · exact .inr ⟨by simp [h1], h2⟩
      rw [e]
      refine ⟨this.1, this.2.trans ⟨?_, ?_⟩⟩
      · rintro (h | ⟨j, h1, h2⟩)
        · exact .inl h
        · exact .inr ⟨j, by simp [h1], h2⟩
      · rintro (h | ⟨j, h1, h2⟩)
        · exact .inl h
        · rcases List.mem_cons.1 h1 with h1 | h1
          · exact absurd (h1 ▸ h2) hh
          · exact .inr ⟨j, h1, h2⟩
theorem K4 (X : RS) (p : zk) : zm X p = { X with gone := if p.at_ ≠ 0 then X.gone ++ [p.at_] else X.gone } := by unfold zm; split <;> rfl
theorem TR.loseP (hI : Inv W D nx) (hr : TR W X H S) {q : Int × Int} (hq : qo q) (h1 : q.1 ≠ 1) (h2 : q.1 ≠ 2) (hk : ¬ Wb W H q) {X' : RS}
    (hw : ∀ k, qo k → qZ X' k = if k = q then 0 else qZ X k) (hs : ∀ k, qo k → k.1 ≠ 1 → wl X' k = if k = q then false else wl X k)
    (hg : X'.gone = if qZ X q ≠ 0 then X.gone ++ [qZ X q] else X.gone) (ha : X'.all = X.all) (e1 : X'.num = X.num) (e2 : X'.ver = X.ver) (e3 : X'.kind = X.kind) (e4 : X'.size = X.size) (e5 : X'.time = X.time) : TR W X' H (fun k => S k ∨ k = q) := by
  refine ⟨hr.ts.lose hI hq h1 h2 hk hw (fun k hkp hk1 => ?_) hg, fun i hi hh => by rw [ha]; exact hr.b0 i hi hh, fun i hi hh => by rw [ha]; exact hr.b1 i hi hh, e1.trans hr.num, e2.trans hr.ver, e3.trans hr.kind, e4.trans hr.size, e5.trans hr.time⟩
  rw [hs k hkp hk1]
  by_cases e : k = q
  · rw [if_pos e]; simp [e]
  · rw [if_neg e]; simp [e]
theorem TR.leaf (hI : Inv W D nx) (hr : TR W X H S) {j : Int} (hj : 0 ≤ j ∧ j < 32) : TR W (wK X j) H (fun k => S k ∨ k = (5, j)) := by
  unfold wK
  by_cases hk : zg X 2 j = true
  · rw [if_pos hk]
    exact { hr with ts := hr.ts.keep ((hr.kid (5, j)).1 ((Zm X j hj.1).1 hk)) }
  · rw [if_neg hk, K4]
    refine hr.loseP hI (zj hj) (by simp) (by simp) (fun e => hk ((Zm X j hj.1).2 ((hr.kid (5, j)).2 e))) (fun k hkp => ?_) (fun k hkp hk1 => ?_) rfl rfl rfl rfl rfl rfl rfl
    · rcases qz hkp with ⟨i, hi, rfl⟩ | rfl | rfl | rfl | ⟨j', hj', rfl⟩
      · exact (if_neg (by simp)).symm
      · exact (if_neg (by simp)).symm
      · exact (if_neg (by simp)).symm
      · exact (if_neg (by simp)).symm
      · rw [kF, kF]; dsimp only; unfold upd
        by_cases e : j' = j
        · rw [if_pos e, if_pos (by rw [e])]
        · rw [if_neg e, if_neg (by simpa using e)]
    · rcases qz hkp with ⟨i, hi, rfl⟩ | rfl | rfl | rfl | ⟨j', hj', rfl⟩
      · exact absurd rfl hk1
      · exact (if_neg (by simp)).symm
      · exact (if_neg (by simp)).symm
      · exact (if_neg (by simp)).symm
      · unfold wl; rw [if_pos rfl, if_pos rfl]; dsimp only; unfold upd
        by_cases e : j' = j
        · rw [if_pos e, if_pos (by rw [e])]
        · rw [if_neg e, if_neg (by simpa using e)]
theorem TR.sgs (hI : Inv W D nx) (hr : TR W X H S) : TR W (QS X) H (fun k => S k ∨ k = (3, 0)) := by
  unfold QS
  by_cases hk : zg X 1 0 = true
  · rw [if_pos hk]
    exact { hr with ts := hr.ts.keep ((hr.kid (3, 0)).1 ((JK X).1 hk)) }
  · rw [if_neg hk, K4]
    refine hr.loseP hI zE (by decide) (by decide) (fun e => hk ((JK X).2 ((hr.kid (3, 0)).2 e))) (fun k hkp => ?_) (fun k hkp hk1 => ?_) rfl rfl rfl rfl rfl rfl rfl
    · rcases qz hkp with ⟨i, hi, rfl⟩ | rfl | rfl | rfl | ⟨j', hj', rfl⟩
      · exact (if_neg (by simp)).symm
      · rfl
      · rfl
      · rfl
      · exact (if_neg (by simp)).symm
    · rcases qz hkp with ⟨i, hi, rfl⟩ | rfl | rfl | rfl | ⟨j', hj', rfl⟩
      · exact absurd rfl hk1
      · rfl
      · rfl
      · rfl
      · exact (if_neg (by simp)).symm
theorem TR.dbs (hI : Inv W D nx) (hr : TR W X H S) : TR W (Zq X) H (fun k => S k ∨ k = (4, 0)) := by
  unfold Zq
  by_cases hk : zg X 2 (-1) = true
  · rw [if_pos hk]
    exact { hr with ts := hr.ts.keep ((hr.kid (4, 0)).1 ((JL X).1 hk)) }
  · rw [if_neg hk, K4]
    refine hr.loseP hI zI (by decide) (by decide) (fun e => hk ((JL X).2 ((hr.kid (4, 0)).2 e))) (fun k hkp => ?_) (fun k hkp hk1 => ?_) rfl rfl rfl rfl rfl rfl rfl
    · rcases qz hkp with ⟨i, hi, rfl⟩ | rfl | rfl | rfl | ⟨j', hj', rfl⟩
      · exact (if_neg (by simp)).symm
      · rfl
      · rfl
      · rfl
      · exact (if_neg (by simp)).symm
    · rcases qz hkp with ⟨i, hi, rfl⟩ | rfl | rfl | rfl | ⟨j', hj', rfl⟩
      · exact absurd rfl hk1
      · rfl
      · rfl
      · rfl
      · exact (if_neg (by simp)).symm
theorem TR.leaves (hI : Inv W D nx) : ∀ (l : List Int) (X : RS) (S : Int × Int → Prop), TR W X H S → (∀ j ∈ l, 0 ≤ j ∧ j < 32) → TR W (l.foldl wK X) H (fun k => S k ∨ ∃ j ∈ l, k = (5, j)) := by
  intro l
  induction l with
  | nil =>
    intro X S hr _
    have : (fun k => S k ∨ ∃ j ∈ ([] : List Int), k = (5, j)) = S := by funext k; simp
    rw [this]; exact hr
  | cons j l ih =>
    intro X S hr hl
    rw [List.foldl_cons]
    have := ih (wK X j) _ (hr.leaf hI (hl j (by simp))) (fun i hi => hl i (by simp [hi]))
    have e : (fun k => S k ∨ ∃ i ∈ j :: l, k = (5, i)) = (fun k => (S k ∨ k = (5, j)) ∨ ∃ i ∈ l, k = (5, i)) := by
      funext k
      refine propext ⟨?_, ?_⟩
      · rintro (h | ⟨i, h1, h2⟩)
        · exact .inl (.inl h)
        · rcases List.mem_cons.1 h1 with h1 | h1
          · exact .inl (.inr (by rw [h2, h1]))
          · exact .inr ⟨i, h1, h2⟩
      · rintro ((h | h) | ⟨i, h1, h2⟩)
        · exact .inl h
        · exact .inr ⟨j, by simp, h⟩
        · exact .inr ⟨i, by simp [h1], h2⟩
    rw [e]; exact this
theorem TR.all (hI : Inv W D nx) (P : Nat) : TR W (Z9 (((zR 1064).drop P).foldl yG (W, false))) (fun j => j ∈ (zR 1064).drop P ∧ (W.all j).has = true) kI := by
  have hmem : ∀ i, i ∈ (zR 1064).drop P → InB i := fun i hi => zl.1 (List.mem_of_mem_drop hi)
  have hnd : ((zR 1064).drop P).Nodup := by
    have : (zR 1064).Nodup := (xB 1064).imp (fun h => Int.ne_of_lt h)
    exact this.sublist (List.drop_sublist _ _)
  obtain ⟨h1, h2⟩ := TR.holes hI ((zR 1064).drop P) W false (fun _ => False) (TR.start hI) (fun i hi => ⟨hmem i hi, id⟩) hnd
  have e : (fun j => False ∨ (j ∈ (zR 1064).drop P ∧ (W.all j).has = true)) = (fun j => j ∈ (zR 1064).drop P ∧ (W.all j).has = true) := by funext j; simp
  rw [e] at h1
  obtain ⟨r, hr⟩ : ∃ r, ((zR 1064).drop P).foldl yG (W, false) = r := ⟨_, rfl⟩
  rw [hr] at h1 h2 ⊢
  unfold Z9
  by_cases hb : r.2 = true
  · rw [if_pos hb]
    have h3 := ((TR.leaves hI (zR 32) r.1 _ h1 (fun j hj => zl.1 hj)).sgs hI).dbs hI
    exact { h3 with ts := h3.ts.sets (fun k hk => by
      unfold y5
      refine or_congr Iff.rfl ⟨?_, ?_⟩
      · rintro ⟨k1, k2, -, k4⟩
        refine ⟨k1, k2, ?_, k4⟩
        rcases qz hk with ⟨i, hi, rfl⟩ | rfl | rfl | rfl | ⟨j, hj, rfl⟩
        · exact absurd rfl k1
        · exact absurd rfl k2
        · exact .inl (.inr rfl)
        · exact .inr rfl
        · exact .inl (.inl (.inr ⟨j, zl.2 hj, rfl⟩))
      · rintro ⟨k1, k2, -, k4⟩; exact ⟨k1, k2, trivial, k4⟩) }
  · rw [if_neg hb]
    have hno : ∀ j ∈ (zR 1064).drop P, ¬ (W.all j).has = true := fun j hj hh => hb (h2.2 (.inr ⟨j, hj, hh⟩))
    have hH : (fun j => j ∈ (zR 1064).drop P ∧ (W.all j).has = true) = (fun _ => False) := by
      funext j
      refine propext ⟨fun h => hno j h.1 h.2, False.elim⟩
    have hrW : ∀ (l : List Int), (∀ j ∈ l, ¬ (W.all j).has = true) → l.foldl yG (W, false) = (W, false) := by
      intro l
      induction l with
      | nil => intro _; rfl
      | cons j l ih =>
        intro hl
        rw [List.foldl_cons, show yG (W, false) j = (W, false) from by unfold yG; rw [if_neg (hl j (by simp))]]
        exact ih (fun i hi => hl i (by simp [hi]))
    rw [hrW _ hno] at hr
    rw [hH, ← hr]
    exact ⟨KG hI (fun _ _ => rfl) (fun _ _ _ => Iff.rfl) (List.Perm.refl _), fun _ _ e => e.elim, fun _ _ _ => rfl, rfl, rfl, rfl, rfl, rfl⟩
end
theorem K8 (s : Sec) (k j : Nat) (hk : k ≤ 128) (hj : j < 128) : (s.clr k).l.getD j 0 = if k ≤ j then 0 else s.l.getD j 0 := by
  unfold Sec.clr
  rw [KQ s _ k j (by rw [List.length_replicate]; omega) (fun b hb => by rw [List.mem_replicate] at hb; omega), List.length_replicate]
  by_cases h : k ≤ j
  · rw [if_pos ⟨h, by omega⟩, if_pos h, List.getD_eq_getElem?_getD, List.getElem?_replicate]; split <;> rfl
  · rw [if_neg (fun e => h e.1), if_neg h]
theorem jZ {n P : Nat} {j : Int} : j ∈ (zR n).drop P ↔ (P : Int) ≤ j ∧ j < n := by
  constructor
  · intro h
    obtain ⟨i, hi⟩ := List.mem_iff_getElem?.1 h
    rw [List.getElem?_drop] at hi
    have hlt := (List.getElem?_eq_some_iff.1 hi).1
    rw [jj] at hlt
    rw [ku hlt] at hi
    have := Option.some.inj hi
    omega
  · rintro ⟨h1, h2⟩
    refine List.mem_iff_getElem?.2 ⟨j.toNat - P, ?_⟩
    rw [List.getElem?_drop, ku (by omega)]
    congr 1; omega
section
variable {n : NS} {W : RS} {D : Int → Option Sec} {nx : Int}
theorem Kk (h : Cpl n W) (hI : Inv W D nx) {size : Int} (hs : 0 ≤ size ∧ size ≤ 136192) :
    ∃ n1, kg n D size = some n1 ∧ Cpl n1 (zq W size) ∧ Inv (zq W size) D nx ∧ (zq W size).size = W.size ∧
      (∀ i, InB i → i < wy size → ∀ j : Nat, j < 128 → size ≤ 128 * i + j → ((zq W size).all i).s.l.getD j 0 = 0) ∧ n1.size = n.size := by
  have hW := hI.size
  unfold kg zq
  rw [h.size]
  by_cases hc : size < W.size ∧ size % 128 ≠ 0 ∧ (W.all (size / 128)).has = true
  · have hQ : wy size - 1 = size / 128 := by unfold wy; rw [if_neg (by omega)]; omega
    have hi : InB (size / 128) := ⟨by omega, by omega⟩
    rw [if_pos hc, hQ, if_pos ⟨hc.1, hc.2.1, (h.hasN_iff hI.has hi).2 hc.2.2⟩, JR h hI hi]
    obtain ⟨Q, hQe⟩ : ∃ Q, size / 128 = Q := ⟨_, rfl⟩
    obtain ⟨r, hr⟩ : ∃ r : Nat, (size % 128).toNat = r := ⟨_, rfl⟩
    rw [hQe] at hi hc ⊢
    rw [hr]
    refine ⟨_, rfl, ?_, ?_, rfl, ?_, h.size⟩
    · refine ⟨h.num, h.ver, h.kind, h.size, h.time, fun q hq => (h.at_ q hq).trans ?_, fun j hj => ?_, h.stale, h.stale1, h.gone, ⟨fun j hj => ?_, h.ok.at1, h.ok.at2, h.ok.stale⟩⟩
      · rcases qz hq with ⟨i, hi', rfl⟩ | rfl | rfl | rfl | ⟨j, hj, rfl⟩
        · rw [zo, zo]; dsimp only; unfold upd; split
          · rename_i e; rw [e]; rfl
          · rfl
        all_goals rfl
      · show upd n.data Q (some ((W.all Q).s.clr r)) j = _
        dsimp only
        by_cases e : j = Q
        · subst e; simp only [wx]; rfl
        · simp only [wI _ _ e]; exact h.data j hj
      · by_cases e : j = Q
        · subst e; exact hi
        · exact h.ok.data j (by have hj' : upd n.data Q (some ((W.all Q).s.clr r)) j ≠ none := hj; rwa [wI _ _ e] at hj')
    · refine hI.touch (fun j => j = Q) (fun j e => e ▸ hi) ⟨Q, rfl⟩ ⟨fun _ _ => rfl, rfl, rfl, rfl, rfl, rfl, rfl, rfl, rfl, fun j hj => ?_⟩ (fun j hj => ?_) (fun j hj => ?_) (fun j hj hn => ?_) hI.size (fun j hj m hm hle => ?_)
      · dsimp only; unfold upd; split
        · rename_i e; rw [e]; rfl
        · rfl
      · dsimp only
        by_cases e : j = Q
        · subst e; rw [wx]; simp [Zt, hc.2.2]
        · rw [wI _ _ e]; simp [e]
      · dsimp only
        by_cases e : j = Q
        · subst e; rw [wx]; simp [Zt]
        · rw [wI _ _ e]; simp [e]
      · dsimp only; rw [wI _ _ hn]
      · dsimp only at hle ⊢
        by_cases e : j = Q
        · subst e; rw [wx]
          show ((W.all j).s.clr r).l.getD m 0 = 0
          rw [K8 _ _ _ (by omega) hm]; split
          · rfl
          · exact hI.zero j hj m hm hle
        · rw [wI _ _ e]; exact hI.zero j hj m hm hle
    · intro i hi2 hlt j hj hle
      dsimp only
      have : i = Q := by omega
      subst this
      rw [wx]
      show ((W.all i).s.clr r).l.getD j 0 = 0
      rw [K8 _ _ _ (by omega) hj, if_pos (by omega)]
  · rw [if_neg hc]
    have hc2 : ¬ (size < W.size ∧ size % 128 ≠ 0 ∧ jk n (wy size - 1)) := by
      rintro ⟨h1, h2, h3⟩
      have hQ : wy size - 1 = size / 128 := by unfold wy; rw [if_neg (by omega)]; omega
      rw [hQ] at h3
      exact hc ⟨h1, h2, (h.hasN_iff hI.has ⟨by omega, by omega⟩).1 h3⟩
    rw [if_neg hc2]
    refine ⟨n, rfl, h, hI, rfl, ?_, h.size⟩
    intro i hi hlt j hj hle
    have hb := hi.1
    by_cases hm : size % 128 = 0
    · exfalso; unfold wy at hlt; split at hlt <;> omega
    · have hiQ : i = size / 128 := by unfold wy at hlt; split at hlt <;> omega
      by_cases hlt2 : size < W.size
      · have hh : (W.all i).has = false := by
          cases e : (W.all i).has with
          | false => rfl
          | true => exact absurd ⟨hlt2, hm, by rw [← hiQ]; exact e⟩ hc
        rw [hI.hole i hi hh]; exact Q1 j
      · exact hI.zero i hi j hj (by omega)
theorem Za (h : Cpl n W) (hI : Inv W D nx) (size : Int) :
    (kG n D size).1 = (yf W size).1 ∧ Cpl (kG n D size).2 (yf W size).2 ∧ Inv (yf W size).2 D nx := by
  unfold kG yf
  by_cases h1 : size < 0
  · rw [if_pos h1, if_pos h1]; exact ⟨rfl, h, hI⟩
  · rw [if_neg h1, if_neg h1]
    by_cases h2 : 136192 < size
    · rw [if_pos h2, if_pos h2]; exact ⟨rfl, h, hI⟩
    · rw [if_neg h2, if_neg h2]
      obtain ⟨n1, hf, hC1, hI1, hsz, hZ, hsz1⟩ := Kk h hI (size := size) ⟨by omega, by omega⟩
      rw [hf]
      dsimp only
      obtain ⟨W1, hW1⟩ : ∃ W1, zq W size = W1 := ⟨_, rfl⟩
      rw [hW1] at hC1 hI1 hZ hsz ⊢
      have hP := WV (s := size) ⟨by omega, by omega⟩
      obtain ⟨P, hPe⟩ : ∃ P : Nat, wy size = P := ⟨(wy size).toNat, by omega⟩
      have hidx : ∀ i, i ∈ jb n1 ↔ InB i ∧ (W1.all i).has = true := fun i => by rw [hC1.idx hI1.has]; exact QB
      have hnd : (jb n1).Nodup := by
        unfold jb
        exact ((xB 1064).imp (fun h => Int.ne_of_lt h)).sublist List.filter_sublist
      have hN := TN.holes hC1 hI1 (wy size - 1) (jb n1) n1 (fun _ => False) (TN.start hC1 hI1) (fun i hi => ⟨((hidx i).1 hi).1, ((hidx i).1 hi).2, id⟩) hnd
      have hR := TR.all hI1 P
      have hH : (fun j => False ∨ (j ∈ jb n1 ∧ wy size - 1 < j)) = (fun j => j ∈ (zR 1064).drop P ∧ (W1.all j).has = true) := by
        funext j
        refine propext ⟨?_, ?_⟩
        · rintro (e | ⟨h3, h4⟩)
          · exact e.elim
          · have := (hidx j).1 h3
            exact ⟨jZ.2 ⟨by omega, this.1.2⟩, this.2⟩
        · rintro ⟨h3, h4⟩
          have := jZ.1 h3
          exact .inr ⟨(hidx j).2 ⟨⟨by omega, by omega⟩, h4⟩, by omega⟩
      rw [hH] at hN
      have hth : yC W1 size = ((zR 1064).drop P).foldl yG (W1, false) := by unfold yC; rw [hPe]; rfl
      have htn : xP n1 size = (jb n1).foldl (fun m i => if wy size - 1 < i then jM m i else m) n1 := rfl
      rw [← htn] at hN
      rw [← hth] at hR
      obtain ⟨X, hX⟩ : ∃ X, Z9 (yC W1 size) = X := ⟨_, rfl⟩
      obtain ⟨m, hm⟩ : ∃ m, xP n1 size = m := ⟨_, rfl⟩
      rw [hX] at hR ⊢
      rw [hm] at hN ⊢
      have hCX := tr_cpl hC1 hN hR
      have hIX := tr_inv hI1 (fun i hi => by have := jZ.1 hi.1; exact ⟨by omega, by omega⟩) hR
      refine ⟨rfl, ?_⟩
      unfold xQ Wc
      rw [hCX.size]
      by_cases e : X.size ≠ size
      · rw [if_pos e, if_pos e]
        have hst : ∀ q, qo q → q.1 ≠ 1 → wl { X with size := size, self := ⟨X.self.at_, true⟩ } q = if q = (2, 0) then true else wl X q := by
          intro q hq hq1
          rcases qz hq with ⟨i, hi, rfl⟩ | rfl | rfl | rfl | ⟨j, hj, rfl⟩
          · exact absurd rfl hq1
          · rfl
          · rfl
          · rfl
          · exact (if_neg (by simp)).symm
        refine ⟨hCX.setStale (W1 := { X with size := size, self := ⟨X.self.at_, true⟩ }) zy (by decide) (fun _ _ => rfl) (fun _ _ => rfl) hst rfl rfl rfl rfl _ (by dsimp only; rw [show X.time = m.time from hCX.time.symm]; rfl), ?_⟩
        refine hIX.mark (fun _ _ => rfl) (fun _ _ => rfl) (fun q hq hq1 hs => by rw [hst q hq hq1, hs]; simp) (fun q hq hq1 hq2 hs => ?_) rfl rfl rfl rfl (.inr rfl) (by dsimp only; omega) hIX.time ?_
        · rw [hst q hq hq1, if_neg (fun e => hq2 (by rw [e]))] at hs
          exact .inl hs
        · intro i hi j hj hle
          dsimp only at hle
          by_cases hh : i ∈ (zR 1064).drop P ∧ (W1.all i).has = true
          · rw [hR.b0 i hi hh]; exact Q1 j
          · rw [hR.b1 i hi hh]
            by_cases hlt : i < wy size
            · exact hZ i hi hlt j hj hle
            · have : (W1.all i).has = false := by
                cases e2 : (W1.all i).has with
                | false => rfl
                | true => exact absurd ⟨jZ.2 ⟨by omega, hi.2⟩, e2⟩ hh
              rw [hI1.hole i hi this]; exact Q1 j
      · rw [if_neg e, if_neg e]; exact ⟨hCX, hIX⟩
end
end Go.Proofs.YtjikpomndbkfgaaGreatDoor
namespace Go.Sx
open Go
theorem Reads.mono {w0 w1 : World} {R L : Res} {y : Value} {m sz : Nat} {ys : List Value} (h : Reads w0 R y m sz ys) (hs : ∀ x, x ∈ R.flatten → x ∈ L.flatten) : Reads w1 L y m sz ys := by
  obtain ⟨p, c, h1, h2, h3⟩ := h.h
  refine ⟨p, c, h1, h2, h3.imp id ?_⟩
  rintro ⟨b, off, cs, e, fr, h4, h5, h6⟩
  exact ⟨b, off, cs, e, fr, h4, hs _ h5, h6⟩
theorem Reads.cutTo {w0 : World} {R : Res} {q : Option Addr} {m c t : Nat} {ys : List Value} (h : Reads w0 R (.slice q m c) m 1 ys) (ht : t ≤ m) (hm : 0 < m) :
    Reads w0 R (.slice (if c = 0 then q else q.map (·.add (0 * 1))) (t - 0) (c - 0)) t 1 (ys.take t) := by
  obtain ⟨p, c', h1, h2, h3⟩ := h.h
  cases h1
  rcases h3 with h3 | ⟨b, off, cs, e, fr, rfl, h5, h6⟩
  · omega
  · refine ⟨_, _, rfl, by rw [List.length_take]; omega, .inr ⟨b, off, cs, e, fr, ?_, h5, ?_⟩⟩
    · split
      · rfl
      · simp [yP]
    · rw [← h6, List.take_take, Nat.mul_one, Nat.mul_one, Nat.min_eq_left ht]
end Go.Sx
namespace Go.Proofs.YtjikpomndbkfgaaGreatDoor
open Go Go.Sx Go.Nd
variable {w0 : World} {L F : Res} {ba bl : Nat}
set_option maxRecDepth 10000
structure WL where
  kind : Int
  at_ : Int
  n : Int
  q : Option Addr
  c : Nat
  bs : List Int
def Zw (a : WL) : List Value := [.int .i64 a.kind, .int .i64 a.at_, .int .i64 a.n, .slice a.q a.bs.length a.c]
structure J1 (R : Res) (a : WL) : Prop where
  at_ : -9223372036854775808 ≤ a.at_ ∧ a.at_ ≤ 9223372036854775807
  n : -9223372036854775808 ≤ a.n ∧ a.n ≤ 9223372036854775807
  bs : IsB a.bs
  len : a.bs.length ≤ a.c
  q : a.q = none → a.bs.length = 0
  reads : ∀ w0, Reads w0 R (.slice a.q a.bs.length a.c) a.bs.length 1 (u8s a.bs)
theorem jR (l : List Int) (n : Nat) : (u8s l).take n = u8s (l.take n) := by simp [u8s]
theorem ZP (m : Int) {M : Int} (h0 : 0 ≤ M) (h : M < 4611686018427387904) : 0 ≤ zH .and .i64 m M ∧ zH .and .i64 m M ≤ M := by
  have e : zH .and .i64 m M = IntKind.i64.wrap (((BitVec.ofInt 64 m &&& BitVec.ofInt 64 M : BitVec 64).toNat : Nat) : Int) := rfl
  rw [e, BitVec.toNat_and]
  have h1 := jt (w := 64) h0 (by have : (2 : Int) ^ 64 = 18446744073709551616 := (by decide); omega)
  have h2 : (BitVec.ofInt 64 m).toNat &&& (BitVec.ofInt 64 M).toNat ≤ (BitVec.ofInt 64 M).toNat := Nat.and_le_right
  have e1 : IntKind.i64.min = -9223372036854775808 := by decide
  have e2 : IntKind.i64.max = 9223372036854775807 := by decide
  obtain ⟨z, hz⟩ : ∃ z, (BitVec.ofInt 64 m).toNat &&& (BitVec.ofInt 64 M).toNat = z := ⟨_, rfl⟩
  rw [hz] at h2 ⊢
  rw [QO (by rw [e1, e2]; omega)]
  omega
theorem tmod6 (m : Int) : -6 < m.tmod 6 ∧ m.tmod 6 < 6 := by
  rcases Int.lt_or_le m 0 with h | h
  · have e : m.tmod 6 = -((-m) % 6) := by
      rw [← Int.tmod_eq_emod_of_nonneg (show 0 ≤ -m by omega), Int.neg_tmod]; omega
    rw [e]; omega
  · rw [Int.tmod_eq_emod_of_nonneg h]; omega
def plA (a : WL) : List (Int × Int) := [(2, 0), (3, 0), (4, 0), (5, zH .and .i64 a.n 31), (1, zH .and .i64 a.at_ 1023), (1, zH .and .i64 a.n 15)]
theorem plA_ok (a : WL) : ∀ k ∈ plA a, qo k := by
  have h1 := ZP a.n (M := 31) (by omega) (by omega)
  have h2 := ZP a.at_ (M := 1023) (by omega) (by omega)
  have h3 := ZP a.n (M := 15) (by omega) (by omega)
  intro k hk
  simp only [plA, List.mem_cons, List.not_mem_nil, or_false] at hk
  rcases hk with rfl | rfl | rfl | rfl | rfl | rfl
  · exact zy
  · exact zE
  · exact zI
  · exact zj ⟨h1.1, by omega⟩
  · exact zz ⟨h2.1, by omega⟩
  · exact zz ⟨h3.1, by omega⟩
structure StP (nx : Int) (n : NS) (W : RS) (D : Int → Option Sec) (m : Nat) : Prop where
  cpl : Cpl n W
  inv : Inv W D nx
  nxb : nx ≤ 100 + 1100 * m
def StG (x m : Nat) (F L : Res) : Prop := ∃ p md v nx od n W D Cn C ba bl, StP nx n W D m ∧ NodeC p n Cn ∧ RefC ba bl W v C ∧ MapF (Value.int .i64) kf D od ∧ L = StD x p v md nx false od :: Cn :: C :: F
theorem StP.up {nx : Int} {n : NS} {W : RS} {D : Int → Option Sec} {m : Nat} (h : StP nx n W D m) : StP nx n W D (m + 1) := ⟨h.cpl, h.inv, by have := h.nxb; push_cast; omega⟩
theorem Ym {l : List Int} {nx : Int} (hn : l.Nodup) (h : ∀ a ∈ l, 1 ≤ a ∧ a < nx) (hnx : 1 ≤ nx) : (l.length : Int) < nx := by
  have key : ∀ (l1 l2 : List Int), l1.Nodup → (∀ x ∈ l1, x ∈ l2) → l1.length ≤ l2.length := by
    intro l1
    induction l1 with
    | nil => intro l2 _ _; simp
    | cons a l ih =>
      intro l2 hn hs
      have h1 := List.nodup_cons.1 hn
      have ha := hs a (by simp)
      have := ih (l2.erase a) h1.2 (fun x hx => (List.mem_erase_of_ne (fun e => h1.1 (by subst e; exact hx))).2 (hs x (by simp [hx])))
      have e := List.length_erase_of_mem ha
      have pos : 0 < l2.length := List.length_pos_of_mem ha
      simp; omega
  have := key l (x7 1 (nx - 1).toNat) hn (fun x hx => by
    have := h x hx
    exact List.mem_map.2 ⟨(x - 1).toNat, List.mem_range.2 (by omega), by omega⟩)
  rw [WX] at this
  omega
theorem StP.gone {nx : Int} {n : NS} {W : RS} {D : Int → Option Sec} {m : Nat} (h : StP nx n W D m) (hm : m ≤ 50) : W.gone.length ≤ 60000 ∧ n.gone.length ≤ 60000 := by
  have h1 := Ym h.inv.gnd h.inv.rngG h.inv.nx
  have h2 := h.nxb
  have h3 := h.cpl.gone.length_eq
  omega
theorem StP.fl {nx : Int} {n : NS} {W : RS} {D : Int → Option Sec} {m : Nat} (h : StP nx n W D m) : NFl n := by
  have hI := h.inv
  refine ⟨by rw [h.cpl.num, hI.num]; omega, by rw [h.cpl.ver, hI.ver]; omega, by rw [h.cpl.kind]; exact hI.kind, by rw [h.cpl.size]; exact hI.size, by rw [h.cpl.time]; exact hI.time⟩
theorem Yy : Cpl (Z7 3 7 1) (W5 3 7 1) ∧ Inv (W5 3 7 1) (fun _ => none) 100 := by
  have hw : ∀ k, qo k → qZ (W5 3 7 1) k = 0 := by
    intro k hk
    rcases qz hk with ⟨i, hi, rfl⟩ | rfl | rfl | rfl | ⟨j, hj, rfl⟩ <;> rfl
  have hs : ∀ k, qo k → k.1 ≠ 1 → (wl (W5 3 7 1) k = true ↔ k = (2, 0)) := by
    intro k hk h1
    rcases qz hk with ⟨i, hi, rfl⟩ | rfl | rfl | rfl | ⟨j, hj, rfl⟩
    · exact absurd rfl h1
    · exact ⟨fun _ => rfl, fun _ => rfl⟩
    · exact ⟨fun h => (by cases h), fun h => (by cases h)⟩
    · exact ⟨fun h => (by cases h), fun h => (by cases h)⟩
    · exact ⟨fun h => (by cases h), fun h => (by cases h)⟩
  refine ⟨⟨rfl, rfl, rfl, rfl, rfl, fun k hk => (hw k hk).symm, fun i hi => rfl, fun k hk h1 => ?_, fun i => ?_, List.Perm.refl _, ⟨fun k hk => absurd rfl hk, fun k hk => absurd rfl hk, fun k a h => (by cases h), fun k hk => ?_⟩⟩, ?_⟩
  · rw [hs k hk h1]
    unfold Z7; dsimp only
    unfold upd; split
    · rename_i e; simp [e]
    · rename_i e; simp [e]
  · unfold Z7; dsimp only
    rw [wI _ _ (by simp)]
  · have hk' := hk
    unfold Z7 at hk'; dsimp only at hk'
    by_cases e : k = (2, 0)
    · rw [e]; exact zy
    · rw [wI _ _ e] at hk'; exact absurd rfl hk'
  · refine ⟨fun i hi => ?_, fun i hi _ => rfl, fun k hk h1 h2 h => ?_, fun k hk h1 h => ?_, fun k hk h => absurd (hw k hk) h, fun a ha => (by cases ha), fun k q hk hq h => absurd (hw k hk) h, List.nodup_nil, fun a ha => (by cases ha), fun k hk h => absurd (hw k hk) h, fun a => ?_, fun h => absurd rfl h, fun i hi j hj hle => Q1 j, rfl, rfl, by decide, by decide, by decide, by decide⟩
    · exact ⟨fun h => (by cases h), fun h => h.elim (fun h => by cases h) (fun h => absurd rfl h)⟩
    · rcases h with h | h
      · exact absurd (hw k hk) h
      · exact absurd (by rw [(hs k hk h1).1 h]) h2
    · by_cases h2 : k.1 = 2
      · rcases qz hk with ⟨i, hi, rfl⟩ | rfl | rfl | rfl | ⟨j, hj, rfl⟩
        · exact absurd rfl h1
        · exact .inr (Z3 rfl)
        · exact absurd h2 (by decide)
        · exact absurd h2 (by decide)
        · exact absurd h2 (by simp)
      · obtain ⟨i, hi, hh, -⟩ := h h2
        cases hh
    · constructor
      · intro h; exact absurd rfl h
      · rintro (h | ⟨k, hk, e, h0⟩)
        · cases h
        · rw [hw k hk] at e; exact absurd e.symm h0
end Go.Proofs.YtjikpomndbkfgaaGreatDoor
namespace Go.Sx
open Go
variable {P : Program} {N : Nat} {w0 : World} {E : Env} {L : Res}
theorem run_equalIn_bool {w : World} (n : Nat) (t : TypeId) (p q : Bool) (h : P.underlying t = some .bool) :
    (Op.equalIn (n + 1) t (.bool p) (.bool q)).run P w = .ok (p == q) w := by
  simp [Op.equalIn, qi h]
theorem run_eql_bool {w : World} (t : TypeId) (p q : Bool) (h : P.underlying t = some .bool) :
    (binOp .eql t (.bool p) (.bool q)).run P w = .ok (.bool (p == q)) w := by
  simp only [binOp]
  simp [show Op.equal t (.bool p) (.bool q) = Op.equalIn (9999 + 1) t (.bool p) (.bool q) from rfl, run_equalIn_bool 9999 t p q h]
theorem op_eqlB {x y : Operand} {t yt ty : TypeId} {p q : Bool} (hx : opv E x = some (.bool p)) (hy : opv E y = some (.bool q)) (h : P.underlying t = some .bool) : Op1 P N w0 E L (.binOp .eql t x y yt) ty (.bool (p == q)) L :=
  .of_run fun o a w h1 _ h3 h4 => ⟨w, by
    have hg : (eqGuard .eql t x y (.bool p) (.bool q)).run P w = .ok () w := rfl
    rw [execOp, h1]
    simp only [Sem.run_bind, h3.eval hx, h3.eval hy, hg, Result.andThen_ok, run_eql_bool t p q h]
    rfl, h4⟩
end Go.Sx
namespace Go.Proofs.YtjikpomndbkfgaaGreatDoor
open Go Go.Sx Go.Nd
variable {w0 : World} {L F : Res} {ba bl : Nat}
set_option maxRecDepth 10000
theorem in2 {G I : qM} {L : Res} (h1 : ∀ x, x ∈ G → x ∈ L.flatten) (h2 : ∀ x, x ∈ I → x ∈ L.flatten) : ∀ x, x ∈ ([G, I] : Res).flatten → x ∈ L.flatten := by
  intro x hx
  simp only [List.flatten_cons, List.flatten_nil, List.append_nil, List.mem_append] at hx
  exact hx.elim (h1 x) (h2 x)
def Q6 (a m : Int) : Int := if a < 0 ∨ m < 0 then 1 else 0
def zr (W : RS) (a m : Int) : List Int := if a < 0 ∨ m < 0 then [] else Qo W a m
theorem readB_len (W : RS) (a m : Int) (hm : m ≤ 200000) : (zr W a m).length ≤ 200000 := by
  unfold zr; split
  · simp
  · unfold Qo; rw [List.length_map, List.length_range]; omega
theorem Z8 (p : Nat) (n : NS) (W : RS) (Cn Dc : qM) (hn : NodeC p n Cn) (a m : Int) (rv : Value) (D : Int → Option Sec) {nx : Int} (hr : YJ rv Dc D) (h : Cpl n W) (hI : Inv W D nx) (ha : a ≤ 9223372036854775807) (hm : m ≤ 9223372036854775807) :
    FnT Tryz.prog w0 9 #[.pointer (some ⟨p, 0, none⟩), .int .i64 a, .int .i64 m, rv] (Cn :: Dc :: F) (fun v L' => ∃ u C2, v = .tuple #[u, .int .i64 (Q6 a m)] ∧ SlC 5 1 u (zr W a m).length (u8s (zr W a m)) C2 ∧ L' = C2 :: Cn :: Dc :: F) := by
  by_cases hb : a < 0 ∨ m < 0
  · unfold Q6 zr
    rw [if_pos hb, if_pos hb]
    exact ((read_bad_ok p a m rv hb).post fun v L' ⟨h1, h2⟩ => ⟨_, ⟨.slice none 0 0, [], h1, zu _ _, rfl⟩, by rw [h2]; exact wH (by simp)⟩)
  · unfold Q6 zr
    rw [if_neg hb, if_neg hb]
    have hsz : 0 ≤ n.size ∧ n.size ≤ 136192 := by rw [h.size]; exact hI.size
    refine (read_node_ok p n Cn Dc hn a m rv D hr hsz ⟨by omega, ha⟩ ⟨by omega, hm⟩).mono fun v L' ⟨u2, C2, h1, h2⟩ => ?_
    rw [read_cpl h hI (by omega) (by omega)] at h2
    exact ⟨u2, C2, h2.1, h2.2, h1⟩
theorem lrread_ok (W : RS) (v : List Value) (C : qM) (hw : RefC ba bl W v C) (a m : Int) (ha : -9223372036854775808 ≤ a ∧ a ≤ 9223372036854775807) (hm : -9223372036854775808 ≤ m ∧ m ≤ 9223372036854775807) (hs : 0 ≤ W.size ∧ W.size ≤ 136192) :
    FnT Tryz.prog w0 29 #[.agg v.toArray, .int .i64 a, .int .i64 m] (C :: F) (fun v L' => ∃ u C2, v = .tuple #[u, .int .i64 (Q6 a m)] ∧ SlC 5 1 u (zr W a m).length (u8s (zr W a m)) C2 ∧ L' = C2 :: C :: F) := by
  refine (rread_ok W v C hw a m ha hs.2).mono fun v L' ⟨C', h1, h2⟩ => ?_
  unfold Q6 zr
  by_cases hb : a < 0 ∨ m < 0
  · rw [if_pos hb] at h1; rw [if_pos hb, if_pos hb]
    obtain ⟨h1, rfl⟩ := h1
    exact ⟨_, [], h1, zu _ _, h2⟩
  · rw [if_neg hb] at h1; rw [if_neg hb, if_neg hb]
    obtain ⟨u, h1, h3⟩ := h1
    exact ⟨u, C', h1, h3, h2⟩
theorem ldo_ok (H : j3 w0) (HP : xc) (x p md : Nat) (v : List Value) (nx : Int) (dn : Bool) (hdn : dn = false) (od : Obj) (n : NS) (W : RS) (D : Int → Option Sec) (Cn C G I : qM) (m : Nat) (a : WL)
    (hn : NodeC p n Cn) (hw : RefC ba bl W v C) (hD : MapF (Value.int .i64) kf D od) (hg : kJ G) (hP : StP nx n W D m) (hm : m ≤ 50) (ha : J1 [G, I] a) :
    FnT Tryz.prog w0 8 #[.pointer (some ⟨x, 0, none⟩), .agg (Zw a).toArray] (StD x p v md nx dn od :: Cn :: C :: G :: I :: F) (fun r L' => r = .bool true ∧ StG x (m + 1) (G :: I :: F) L') := by
  have hv := hw.len
  have hgl := hP.gone hm
  have hI := hP.inv
  have hsz := hI.size
  have hnsz : 0 ≤ n.size ∧ n.size ≤ 136192 := by rw [hP.cpl.size]; exact hsz
  have hnxb := hP.nxb
  have hrd : YJ (.func (.func 11) #[.pointer (some ⟨x, 0, none⟩)] #[]) (StD x p v md nx dn od) D := by
    have := xv x p md v nx dn od D hv hD
    rw [hdn, K1] at this; rw [hdn]; exact this
  rw [show Zw a = [.int .i64 a.kind, .int .i64 a.at_, .int .i64 a.n, .slice a.q a.bs.length a.c] from rfl]
  have hat := ha.at_
  have hnn := ha.n
  refine FnT.enter (E0 := [(0, _), (1, _)]) (N := 232) Tryz.func8 rfl rfl rfl rfl ?_
  refine Tr.seq <| Tr.region <| qF (wT rfl) ?_
  rintro t3 _ ⟨b3, rfl, rfl⟩
  refine q9 (qC rfl) <| qB <| QAt.seq <| Tr.seq <| Tr.region <| q9 (qD rfl) <| q9 (qG rfl rfl) <| q9 (qC rfl) <| qB <| QAt.seq <| zA (Γ := {pΓ : (Option Addr) × (Nat) × (List Int) // (fun (q : Option Addr) (c : Nat) (bs : List Int) => IsB bs ∧ bs.length ≤ 700 ∧ bs.length ≤ c ∧ (q = none → bs.length = 0) ∧ (∀ w0, Reads w0 [G, I] (.slice q bs.length c) bs.length 1 (u8s bs))) pΓ.1 pΓ.2.1 pΓ.2.2}) (fun g => (fun (q : Option Addr) (c : Nat) (bs : List Int) => [(0, .pointer (some ⟨x, 0, none⟩)), (3, .pointer (some ⟨b3, 0, none⟩)), (5, .slice q bs.length c)]) g.1.1 g.1.2.1 g.1.2.2) (fun g => (fun (q : Option Addr) (c : Nat) (bs : List Int) => [(b3, .cells [.int .i64 a.kind, .int .i64 a.at_, .int .i64 a.n, .slice a.q a.bs.length a.c].toArray 25 (0, 0))] :: StD x p v md nx dn od :: Cn :: C :: G :: I :: F) g.1.1 g.1.2.1 g.1.2.2) ?_ ?_
  ·
   refine Tr.seq <| Tr.region <| q9 (qA rfl) <| q9 (qg rfl) <| q9 (zd rfl rfl) <| qB <| QAt.seq <| qI rfl (fun hc2 => ?_) (fun hc2 => ?_)
   ·
    refine Tr.region <| q9 (qA rfl) <| q9 (kk (kl := .i64) (kh := .i64) (l := 0) (h := 700) rfl rfl rfl (by omega) (by have := ha.len; omega) ha.len) ?_
    refine q9 (qC rfl) <| qB ?_
    rw [show (700 - 0 : Nat) = (a.bs.take 700).length from by rw [List.length_take]; omega]
    refine qO ⟨(if a.c = 0 then a.q else a.q.map (·.add (0 * 1)), a.c - 0, a.bs.take 700), ?_⟩ ?_
    ·
     try dsimp only
     refine ⟨Yu ha.bs 700, by rw [List.length_take]; omega, by have := ha.len; rw [List.length_take]; omega, fun e => ?_, fun w0 => ?_⟩
     · exfalso; have hqq := ha.q; split at e
       · have := hqq e; omega
       · cases hq : a.q with
         | none => have := hqq hq; omega
         | some z => rw [hq] at e; cases e
     · have h7 : (a.bs.take 700).length = 700 := by rw [List.length_take]; omega
       rw [h7, ← jR]; exact (ha.reads w0).cutTo (t := 700) (by omega) (by omega)
    · (try dsimp only); exact qP _
   ·
    refine Tr.skip <| qO ⟨(a.q, a.c, a.bs), ?_⟩ ?_
    · (try dsimp only); exact ⟨ha.bs, by omega, ha.len, ha.q, ha.reads⟩
    · (try dsimp only); exact qP _
  rintro ⟨⟨q, c, bs⟩, hcut⟩
  replace hcut : IsB bs ∧ bs.length ≤ 700 ∧ bs.length ≤ c ∧ (q = none → bs.length = 0) ∧ (∀ w0, Reads w0 [G, I] (.slice q bs.length c) bs.length 1 (u8s bs)) := hcut
  obtain ⟨hbs, hb7, hbc, hbq, hbr⟩ := hcut
  show Tr _ _ _ ([(0, .pointer (some ⟨x, 0, none⟩)), (3, .pointer (some ⟨b3, 0, none⟩)), (5, .slice q bs.length c)]) ([(b3, .cells [.int .i64 a.kind, .int .i64 a.at_, .int .i64 a.n, .slice a.q a.bs.length a.c].toArray 25 (0, 0))] :: StD x p v md nx dn od :: Cn :: C :: G :: I :: F) _ _
  refine zA (Γ := {pΓ : (NS) × (RS) × (List Value) × (qM) × (qM) // (fun (n1 : NS) (W1 : RS) (l1 : List Value) (Cn1 : qM) (C1 : qM) => NodeC p n1 Cn1 ∧ RefC ba bl W1 l1 C1 ∧ Cpl n1 W1 ∧ Inv W1 D nx) pΓ.1 pΓ.2.1 pΓ.2.2.1 pΓ.2.2.2.1 pΓ.2.2.2.2}) (fun g => (fun (n1 : NS) (W1 : RS) (l1 : List Value) (Cn1 : qM) (C1 : qM) => []) g.1.1 g.1.2.1 g.1.2.2.1 g.1.2.2.2.1 g.1.2.2.2.2) (fun g => (fun (n1 : NS) (W1 : RS) (l1 : List Value) (Cn1 : qM) (C1 : qM) => StD x p l1 md nx dn od :: Cn1 :: C1 :: G :: I :: F) g.1.1 g.1.2.1 g.1.2.2.1 g.1.2.2.2.1 g.1.2.2.2.2) ?_ ?_
  ·
   refine Tr.seq <| Tr.region <| q9 (qD rfl) <| q9 (qG rfl rfl) <| qB <| QAt.seq <| Tr.block <| Tr.seq <| Tr.region <| q9 (wR rfl rfl) <| q9 (qC rfl) <| qB <| QAt.seq <| qI rfl (fun hc5 => ?_) (fun hc5 => ?_)
   ·
    refine Tr.seq <| Tr.drawn qm <| qr [(34, .pure _), (35, .pure _), (36, .pure _), (37, .pure _), (38, .pure _), (39, .pure _), (40, .pure _), (41, .pure _), (42, .pure _)] (by kernel_rfl) rfl rfl rfl wL (ParH.pure rfl (fun X => qA rfl) <| ParH.pure rfl (fun X => qJ rfl) <| ParH.pure rfl (fun X => qD rfl) <| ParH.pure rfl (fun X => qG rfl j4) <| ParH.pure rfl (fun X => qD rfl) <| ParH.pure rfl (fun X => qG rfl rfl) <| ParH.pure rfl (fun X => qA rfl) <| ParH.pure rfl (fun X => qA rfl) <| ParH.pure rfl (fun X => wV rfl rfl) <| ParH.nil rfl) ?_
    dsimp only [zG, List.drop, List.length]
    refine wa (by kernel_rfl) (qn rfl (k5 (Cn) (StD x p v md nx dn od) (xu p n Cn (StD x p v md nx dn od) hn a.at_ q c bs _ D hrd hnsz hat hbs (by omega) hbc hbq (fun A => (hbr w0).mono (in2 (fun z hz => by simp [hz]) (fun z hz => by simp [hz])))))) ?_
    rintro t43 _ ⟨Cn', rfl, hn', rfl⟩
    refine qq (by kernel_rfl) (qC rfl) ?_
    refine qt <| QAt.seq <| zA (Γ := {pΓ : (Nat) × (List Value) × (qM) // (fun (y : Nat) (l1 : List Value) (C1 : qM) => RefC ba bl (yM W a.at_ bs).2 l1 C1) pΓ.1 pΓ.2.1 pΓ.2.2}) (fun g => (fun (y : Nat) (l1 : List Value) (C1 : qM) => [(0, .pointer (some ⟨x, 0, none⟩)), (6, .int .i64 (jC n D a.at_ bs).1), (7, .pointer (some ⟨y, 0, none⟩)), (8, .int .i64 (yM W a.at_ bs).1)]) g.1.1 g.1.2.1 g.1.2.2) (fun g => (fun (y : Nat) (l1 : List Value) (C1 : qM) => [(y, .cells l1.toArray 41 (0, 0))] :: StD x p v md nx dn od :: Cn' :: C1 :: G :: I :: F) g.1.1 g.1.2.1 g.1.2.2) ?_ ?_
    ·
     refine yL qm (show TrS _ _ _ _ [false, false, false, false, false, false, false, false, false, false, false, false, false, false] _ _ _ from ?_)
     refine TrS.take 0 rfl rfl (by kernel_rfl) rfl (w6 rfl) ?_
     refine TrS.take 1 rfl rfl (by kernel_rfl) rfl (y0 rfl) ?_
     refine TrS.take 2 rfl rfl (by kernel_rfl) rfl (wY rfl) ?_
     refine TrS.take 4 rfl rfl (by kernel_rfl) rfl (wY rfl) ?_
     refine TrS.take 6 rfl rfl (by kernel_rfl) rfl (w6 rfl) ?_
     refine xM (i := 3) (j := 5) (k := 11) (by kernel_rfl) rfl ?_ ?_ ?_
     ·
      refine qQ rfl rfl rfl (zQ (r := v) rfl (ky hv) hv) <| wg (i := 5) (j := 11) (by kernel_rfl) rfl ?_ ?_
      ·
       refine qQ rfl rfl rfl (qG rfl rfl) <| wg (i := 7) (j := 11) (by kernel_rfl) rfl ?_ ?_
       ·
        refine qp rfl rfl rfl (qn rfl (wM (C) (jH W v C hw a.at_ q c bs hat hbs (by omega) ((hbr w0).mono (in2 (fun z hz => by simp [hz]) (fun z hz => by simp [hz])))))) ?_
        rintro t52 _ ⟨l', C', rfl, hw', rfl⟩
        refine TrS.take 8 rfl rfl (by kernel_rfl) rfl (w6 rfl) ?_
        refine TrS.take 9 rfl rfl (by kernel_rfl) rfl (qU rfl rfl) ?_
        refine TrS.take 10 rfl rfl (by kernel_rfl) rfl (qU rfl rfl) ?_
        refine TrS.one (i := 11) (by kernel_rfl) rfl ?_
        refine qp rfl rfl rfl (qV) ?_
        rintro t7 _ ⟨b7, rfl, rfl⟩
        refine TrS.one (i := 12) (by kernel_rfl) rfl ?_
        refine w9 rfl rfl rfl (qW (l := node0V) rfl rfl rfl hw'.len hw'.one) <| TrS.take 13 rfl rfl (by kernel_rfl) rfl (wA rfl) ?_
        refine qy (by kernel_rfl) ?_
        refine qO ⟨(b7, l', C'), ?_⟩ ?_
        · (try dsimp only); exact hw'
        · (try dsimp only); exact qP _
       ·
        refine qp rfl rfl rfl (qV) ?_
        rintro t7 _ ⟨b7, rfl, rfl⟩
        refine TrS.one (i := 7) (by kernel_rfl) rfl ?_
        refine qp rfl rfl rfl (qn rfl (wM (C) (jH W v C hw a.at_ q c bs hat hbs (by omega) ((hbr w0).mono (in2 (fun z hz => by simp [hz]) (fun z hz => by simp [hz])))))) ?_
        rintro t52 _ ⟨l', C', rfl, hw', rfl⟩
        refine TrS.take 8 rfl rfl (by kernel_rfl) rfl (w6 rfl) ?_
        refine TrS.take 9 rfl rfl (by kernel_rfl) rfl (qU rfl rfl) ?_
        refine TrS.take 10 rfl rfl (by kernel_rfl) rfl (qU rfl rfl) ?_
        refine TrS.one (i := 12) (by kernel_rfl) rfl ?_
        refine w9 rfl rfl rfl (qW (l := node0V) rfl rfl rfl hw'.len hw'.one) <| TrS.take 13 rfl rfl (by kernel_rfl) rfl (wA rfl) ?_
        refine qy (by kernel_rfl) ?_
        refine qO ⟨(b7, l', C'), ?_⟩ ?_
        · (try dsimp only); exact hw'
        · (try dsimp only); exact qP _
      ·
       refine qp rfl rfl rfl (qV) ?_
       rintro t7 _ ⟨b7, rfl, rfl⟩
       refine TrS.one (i := 5) (by kernel_rfl) rfl ?_
       refine qQ rfl rfl rfl (qG rfl rfl) <| TrS.one (i := 7) (by kernel_rfl) rfl ?_
       refine qp rfl rfl rfl (qn rfl (wM (C) (jH W v C hw a.at_ q c bs hat hbs (by omega) ((hbr w0).mono (in2 (fun z hz => by simp [hz]) (fun z hz => by simp [hz])))))) ?_
       rintro t52 _ ⟨l', C', rfl, hw', rfl⟩
       refine TrS.take 8 rfl rfl (by kernel_rfl) rfl (w6 rfl) ?_
       refine TrS.take 9 rfl rfl (by kernel_rfl) rfl (qU rfl rfl) ?_
       refine TrS.take 10 rfl rfl (by kernel_rfl) rfl (qU rfl rfl) ?_
       refine TrS.one (i := 12) (by kernel_rfl) rfl ?_
       refine w9 rfl rfl rfl (qW (l := node0V) rfl rfl rfl hw'.len hw'.one) <| TrS.take 13 rfl rfl (by kernel_rfl) rfl (wA rfl) ?_
       refine qy (by kernel_rfl) ?_
       refine qO ⟨(b7, l', C'), ?_⟩ ?_
       · (try dsimp only); exact hw'
       · (try dsimp only); exact qP _
     ·
      refine qQ rfl rfl rfl (qG rfl rfl) <| wg (i := 3) (j := 11) (by kernel_rfl) rfl ?_ ?_
      ·
       refine qQ rfl rfl rfl (zQ (r := v) rfl (ky hv) hv) <| wg (i := 7) (j := 11) (by kernel_rfl) rfl ?_ ?_
       ·
        refine qp rfl rfl rfl (qn rfl (wM (C) (jH W v C hw a.at_ q c bs hat hbs (by omega) ((hbr w0).mono (in2 (fun z hz => by simp [hz]) (fun z hz => by simp [hz])))))) ?_
        rintro t52 _ ⟨l', C', rfl, hw', rfl⟩
        refine TrS.take 8 rfl rfl (by kernel_rfl) rfl (w6 rfl) ?_
        refine TrS.take 9 rfl rfl (by kernel_rfl) rfl (qU rfl rfl) ?_
        refine TrS.take 10 rfl rfl (by kernel_rfl) rfl (qU rfl rfl) ?_
        refine TrS.one (i := 11) (by kernel_rfl) rfl ?_
        refine qp rfl rfl rfl (qV) ?_
        rintro t7 _ ⟨b7, rfl, rfl⟩
        refine TrS.one (i := 12) (by kernel_rfl) rfl ?_
        refine w9 rfl rfl rfl (qW (l := node0V) rfl rfl rfl hw'.len hw'.one) <| TrS.take 13 rfl rfl (by kernel_rfl) rfl (wA rfl) ?_
        refine qy (by kernel_rfl) ?_
        refine qO ⟨(b7, l', C'), ?_⟩ ?_
        · (try dsimp only); exact hw'
        · (try dsimp only); exact qP _
       ·
        refine qp rfl rfl rfl (qV) ?_
        rintro t7 _ ⟨b7, rfl, rfl⟩
        refine TrS.one (i := 7) (by kernel_rfl) rfl ?_
        refine qp rfl rfl rfl (qn rfl (wM (C) (jH W v C hw a.at_ q c bs hat hbs (by omega) ((hbr w0).mono (in2 (fun z hz => by simp [hz]) (fun z hz => by simp [hz])))))) ?_
        rintro t52 _ ⟨l', C', rfl, hw', rfl⟩
        refine TrS.take 8 rfl rfl (by kernel_rfl) rfl (w6 rfl) ?_
        refine TrS.take 9 rfl rfl (by kernel_rfl) rfl (qU rfl rfl) ?_
        refine TrS.take 10 rfl rfl (by kernel_rfl) rfl (qU rfl rfl) ?_
        refine TrS.one (i := 12) (by kernel_rfl) rfl ?_
        refine w9 rfl rfl rfl (qW (l := node0V) rfl rfl rfl hw'.len hw'.one) <| TrS.take 13 rfl rfl (by kernel_rfl) rfl (wA rfl) ?_
        refine qy (by kernel_rfl) ?_
        refine qO ⟨(b7, l', C'), ?_⟩ ?_
        · (try dsimp only); exact hw'
        · (try dsimp only); exact qP _
      ·
       refine qp rfl rfl rfl (qV) ?_
       rintro t7 _ ⟨b7, rfl, rfl⟩
       refine TrS.one (i := 3) (by kernel_rfl) rfl ?_
       refine qQ rfl rfl rfl (zQ (r := v) rfl (ky hv) hv) <| TrS.one (i := 7) (by kernel_rfl) rfl ?_
       refine qp rfl rfl rfl (qn rfl (wM (C) (jH W v C hw a.at_ q c bs hat hbs (by omega) ((hbr w0).mono (in2 (fun z hz => by simp [hz]) (fun z hz => by simp [hz])))))) ?_
       rintro t52 _ ⟨l', C', rfl, hw', rfl⟩
       refine TrS.take 8 rfl rfl (by kernel_rfl) rfl (w6 rfl) ?_
       refine TrS.take 9 rfl rfl (by kernel_rfl) rfl (qU rfl rfl) ?_
       refine TrS.take 10 rfl rfl (by kernel_rfl) rfl (qU rfl rfl) ?_
       refine TrS.one (i := 12) (by kernel_rfl) rfl ?_
       refine w9 rfl rfl rfl (qW (l := node0V) rfl rfl rfl hw'.len hw'.one) <| TrS.take 13 rfl rfl (by kernel_rfl) rfl (wA rfl) ?_
       refine qy (by kernel_rfl) ?_
       refine qO ⟨(b7, l', C'), ?_⟩ ?_
       · (try dsimp only); exact hw'
       · (try dsimp only); exact qP _
     ·
      refine qp rfl rfl rfl (qV) ?_
      rintro t7 _ ⟨b7, rfl, rfl⟩
      refine wg (i := 3) (j := 5) (by kernel_rfl) rfl ?_ ?_
      ·
       refine qQ rfl rfl rfl (zQ (r := v) rfl (ky hv) hv) <| TrS.one (i := 5) (by kernel_rfl) rfl ?_
       refine qQ rfl rfl rfl (qG rfl rfl) <| TrS.one (i := 7) (by kernel_rfl) rfl ?_
       refine qp rfl rfl rfl (qn rfl (wM (C) (jH W v C hw a.at_ q c bs hat hbs (by omega) ((hbr w0).mono (in2 (fun z hz => by simp [hz]) (fun z hz => by simp [hz])))))) ?_
       rintro t52 _ ⟨l', C', rfl, hw', rfl⟩
       refine TrS.take 8 rfl rfl (by kernel_rfl) rfl (w6 rfl) ?_
       refine TrS.take 9 rfl rfl (by kernel_rfl) rfl (qU rfl rfl) ?_
       refine TrS.take 10 rfl rfl (by kernel_rfl) rfl (qU rfl rfl) ?_
       refine TrS.one (i := 12) (by kernel_rfl) rfl ?_
       refine w9 rfl rfl rfl (qW (l := node0V) rfl rfl rfl hw'.len hw'.one) <| TrS.take 13 rfl rfl (by kernel_rfl) rfl (wA rfl) ?_
       refine qy (by kernel_rfl) ?_
       refine qO ⟨(b7, l', C'), ?_⟩ ?_
       · (try dsimp only); exact hw'
       · (try dsimp only); exact qP _
      ·
       refine qQ rfl rfl rfl (qG rfl rfl) <| TrS.one (i := 3) (by kernel_rfl) rfl ?_
       refine qQ rfl rfl rfl (zQ (r := v) rfl (ky hv) hv) <| TrS.one (i := 7) (by kernel_rfl) rfl ?_
       refine qp rfl rfl rfl (qn rfl (wM (C) (jH W v C hw a.at_ q c bs hat hbs (by omega) ((hbr w0).mono (in2 (fun z hz => by simp [hz]) (fun z hz => by simp [hz])))))) ?_
       rintro t52 _ ⟨l', C', rfl, hw', rfl⟩
       refine TrS.take 8 rfl rfl (by kernel_rfl) rfl (w6 rfl) ?_
       refine TrS.take 9 rfl rfl (by kernel_rfl) rfl (qU rfl rfl) ?_
       refine TrS.take 10 rfl rfl (by kernel_rfl) rfl (qU rfl rfl) ?_
       refine TrS.one (i := 12) (by kernel_rfl) rfl ?_
       refine w9 rfl rfl rfl (qW (l := node0V) rfl rfl rfl hw'.len hw'.one) <| TrS.take 13 rfl rfl (by kernel_rfl) rfl (wA rfl) ?_
       refine qy (by kernel_rfl) ?_
       refine qO ⟨(b7, l', C'), ?_⟩ ?_
       · (try dsimp only); exact hw'
       · (try dsimp only); exact qP _
    rintro ⟨⟨y, l1, C1⟩, hcut⟩
    replace hcut : RefC ba bl (yM W a.at_ bs).2 l1 C1 := hcut
    have hw1 := hcut
    show Tr _ _ _ ([(0, .pointer (some ⟨x, 0, none⟩)), (6, .int .i64 (jC n D a.at_ bs).1), (7, .pointer (some ⟨y, 0, none⟩)), (8, .int .i64 (yM W a.at_ bs).1)]) ([(y, .cells l1.toArray 41 (0, 0))] :: StD x p v md nx dn od :: Cn' :: C1 :: G :: I :: F) _ _
    refine Tr.seq <| Tr.region <| q9 (qA rfl) <| q9 (w7 rfl hw1.len) <| q9 (qJ rfl) <| q9 (qD rfl) <| qK (yT (r := stV p l1 md nx dn) rfl rfl (QR hv hw1.len) (by rw [jS hv, hw1.len]; decide) hw1.len hw1.one) ?_
    refine qB <| QAt.seq <| Tr.seq <| Tr.region <| q9 (qA rfl) <| q9 (qA rfl) <| q9 (wR rfl rfl) <| q9 (qC rfl) <| qB <| QAt.seq <| Tr.ret <| qu <| ya <| qs (StD x p l1 md nx dn od :: Cn' :: C1 :: G :: I :: F) (.inl rfl) rfl (qd rfl) ?_
    have hc := ZZ hP.cpl hI a.at_ bs hbs
    exact ⟨congrArg Value.bool (decide_eq_true hc.1), p, md, l1, nx, od, _, _, D, Cn', C1, ba, bl, ⟨hc.2.1, hc.2.2, by push_cast; omega⟩, hn', hw1, hD, by rw [hdn]⟩
   ·
    refine Tr.seq <| Tr.region <| q9 (wR rfl rfl) <| q9 (qC rfl) <| qB <| QAt.seq <| qI rfl (fun hc10 => ?_) (fun hc10 => ?_)
    ·
     refine Tr.seq <| Tr.drawn qm <| qr [(64, .pure _), (65, .pure _), (66, .pure _), (67, .pure _), (68, .pure _), (69, .pure _), (70, .pure _), (71, .pure _)] (by kernel_rfl) rfl rfl rfl wL (ParH.pure rfl (fun X => qA rfl) <| ParH.pure rfl (fun X => qJ rfl) <| ParH.pure rfl (fun X => qD rfl) <| ParH.pure rfl (fun X => qG rfl j4) <| ParH.pure rfl (fun X => qD rfl) <| ParH.pure rfl (fun X => qG rfl rfl) <| ParH.pure rfl (fun X => qA rfl) <| ParH.pure rfl (fun X => wV rfl rfl) <| ParH.nil rfl) ?_
     dsimp only [zG, List.drop, List.length]
     refine wa (by kernel_rfl) (qn rfl (jB (Cn) (StD x p v md nx dn od) (G) (Qx H p n Cn (StD x p v md nx dn od) G hn hg hP.cpl.ok a.n _ D hrd hnn (by omega)))) ?_
     rintro t72 _ ⟨Cn', rfl, hn', rfl⟩
     refine qq (by kernel_rfl) (qC rfl) ?_
     refine qt <| QAt.seq <| zA (Γ := {pΓ : (Nat) × (List Value) × (qM) // (fun (y : Nat) (l1 : List Value) (C1 : qM) => RefC ba bl (yf W a.n).2 l1 C1) pΓ.1 pΓ.2.1 pΓ.2.2}) (fun g => (fun (y : Nat) (l1 : List Value) (C1 : qM) => [(0, .pointer (some ⟨x, 0, none⟩)), (9, .int .i64 (kG n D a.n).1), (10, .pointer (some ⟨y, 0, none⟩)), (11, .int .i64 (yf W a.n).1)]) g.1.1 g.1.2.1 g.1.2.2) (fun g => (fun (y : Nat) (l1 : List Value) (C1 : qM) => [(y, .cells l1.toArray 41 (0, 0))] :: StD x p v md nx dn od :: Cn' :: C1 :: G :: I :: F) g.1.1 g.1.2.1 g.1.2.2) ?_ ?_
     ·
      refine yL qm (show TrS _ _ _ _ [false, false, false, false, false, false, false, false, false, false, false, false, false] _ _ _ from ?_)
      refine TrS.take 0 rfl rfl (by kernel_rfl) rfl (w6 rfl) ?_
      refine TrS.take 1 rfl rfl (by kernel_rfl) rfl (y0 rfl) ?_
      refine TrS.take 2 rfl rfl (by kernel_rfl) rfl (wY rfl) ?_
      refine TrS.take 4 rfl rfl (by kernel_rfl) rfl (wY rfl) ?_
      refine xM (i := 3) (j := 5) (k := 10) (by kernel_rfl) rfl ?_ ?_ ?_
      ·
       refine qQ rfl rfl rfl (zQ (r := v) rfl (ky hv) hv) <| wg (i := 5) (j := 10) (by kernel_rfl) rfl ?_ ?_
       ·
        refine qQ rfl rfl rfl (qG rfl rfl) <| wg (i := 6) (j := 10) (by kernel_rfl) rfl ?_ ?_
        ·
         refine qp rfl rfl rfl (qn rfl (wM (C) (yr W v C hw a.n hnn (by omega) hsz.2))) ?_
         rintro t80 _ ⟨l', C', rfl, hw', rfl⟩
         refine TrS.take 7 rfl rfl (by kernel_rfl) rfl (w6 rfl) ?_
         refine TrS.take 8 rfl rfl (by kernel_rfl) rfl (qU rfl rfl) ?_
         refine TrS.take 9 rfl rfl (by kernel_rfl) rfl (qU rfl rfl) ?_
         refine TrS.one (i := 10) (by kernel_rfl) rfl ?_
         refine qp rfl rfl rfl (qV) ?_
         rintro t10 _ ⟨b10, rfl, rfl⟩
         refine TrS.one (i := 11) (by kernel_rfl) rfl ?_
         refine w9 rfl rfl rfl (qW (l := node0V) rfl rfl rfl hw'.len hw'.one) <| TrS.take 12 rfl rfl (by kernel_rfl) rfl (wA rfl) ?_
         refine qy (by kernel_rfl) ?_
         refine qO ⟨(b10, l', C'), ?_⟩ ?_
         · (try dsimp only); exact hw'
         · (try dsimp only); exact qP _
        ·
         refine qp rfl rfl rfl (qV) ?_
         rintro t10 _ ⟨b10, rfl, rfl⟩
         refine TrS.one (i := 6) (by kernel_rfl) rfl ?_
         refine qp rfl rfl rfl (qn rfl (wM (C) (yr W v C hw a.n hnn (by omega) hsz.2))) ?_
         rintro t80 _ ⟨l', C', rfl, hw', rfl⟩
         refine TrS.take 7 rfl rfl (by kernel_rfl) rfl (w6 rfl) ?_
         refine TrS.take 8 rfl rfl (by kernel_rfl) rfl (qU rfl rfl) ?_
         refine TrS.take 9 rfl rfl (by kernel_rfl) rfl (qU rfl rfl) ?_
         refine TrS.one (i := 11) (by kernel_rfl) rfl ?_
         refine w9 rfl rfl rfl (qW (l := node0V) rfl rfl rfl hw'.len hw'.one) <| TrS.take 12 rfl rfl (by kernel_rfl) rfl (wA rfl) ?_
         refine qy (by kernel_rfl) ?_
         refine qO ⟨(b10, l', C'), ?_⟩ ?_
         · (try dsimp only); exact hw'
         · (try dsimp only); exact qP _
       ·
        refine qp rfl rfl rfl (qV) ?_
        rintro t10 _ ⟨b10, rfl, rfl⟩
        refine TrS.one (i := 5) (by kernel_rfl) rfl ?_
        refine qQ rfl rfl rfl (qG rfl rfl) <| TrS.one (i := 6) (by kernel_rfl) rfl ?_
        refine qp rfl rfl rfl (qn rfl (wM (C) (yr W v C hw a.n hnn (by omega) hsz.2))) ?_
        rintro t80 _ ⟨l', C', rfl, hw', rfl⟩
        refine TrS.take 7 rfl rfl (by kernel_rfl) rfl (w6 rfl) ?_
        refine TrS.take 8 rfl rfl (by kernel_rfl) rfl (qU rfl rfl) ?_
        refine TrS.take 9 rfl rfl (by kernel_rfl) rfl (qU rfl rfl) ?_
        refine TrS.one (i := 11) (by kernel_rfl) rfl ?_
        refine w9 rfl rfl rfl (qW (l := node0V) rfl rfl rfl hw'.len hw'.one) <| TrS.take 12 rfl rfl (by kernel_rfl) rfl (wA rfl) ?_
        refine qy (by kernel_rfl) ?_
        refine qO ⟨(b10, l', C'), ?_⟩ ?_
        · (try dsimp only); exact hw'
        · (try dsimp only); exact qP _
      ·
       refine qQ rfl rfl rfl (qG rfl rfl) <| wg (i := 3) (j := 10) (by kernel_rfl) rfl ?_ ?_
       ·
        refine qQ rfl rfl rfl (zQ (r := v) rfl (ky hv) hv) <| wg (i := 6) (j := 10) (by kernel_rfl) rfl ?_ ?_
        ·
         refine qp rfl rfl rfl (qn rfl (wM (C) (yr W v C hw a.n hnn (by omega) hsz.2))) ?_
         rintro t80 _ ⟨l', C', rfl, hw', rfl⟩
         refine TrS.take 7 rfl rfl (by kernel_rfl) rfl (w6 rfl) ?_
         refine TrS.take 8 rfl rfl (by kernel_rfl) rfl (qU rfl rfl) ?_
         refine TrS.take 9 rfl rfl (by kernel_rfl) rfl (qU rfl rfl) ?_
         refine TrS.one (i := 10) (by kernel_rfl) rfl ?_
         refine qp rfl rfl rfl (qV) ?_
         rintro t10 _ ⟨b10, rfl, rfl⟩
         refine TrS.one (i := 11) (by kernel_rfl) rfl ?_
         refine w9 rfl rfl rfl (qW (l := node0V) rfl rfl rfl hw'.len hw'.one) <| TrS.take 12 rfl rfl (by kernel_rfl) rfl (wA rfl) ?_
         refine qy (by kernel_rfl) ?_
         refine qO ⟨(b10, l', C'), ?_⟩ ?_
         · (try dsimp only); exact hw'
         · (try dsimp only); exact qP _
        ·
         refine qp rfl rfl rfl (qV) ?_
         rintro t10 _ ⟨b10, rfl, rfl⟩
         refine TrS.one (i := 6) (by kernel_rfl) rfl ?_
         refine qp rfl rfl rfl (qn rfl (wM (C) (yr W v C hw a.n hnn (by omega) hsz.2))) ?_
         rintro t80 _ ⟨l', C', rfl, hw', rfl⟩
         refine TrS.take 7 rfl rfl (by kernel_rfl) rfl (w6 rfl) ?_
         refine TrS.take 8 rfl rfl (by kernel_rfl) rfl (qU rfl rfl) ?_
         refine TrS.take 9 rfl rfl (by kernel_rfl) rfl (qU rfl rfl) ?_
         refine TrS.one (i := 11) (by kernel_rfl) rfl ?_
         refine w9 rfl rfl rfl (qW (l := node0V) rfl rfl rfl hw'.len hw'.one) <| TrS.take 12 rfl rfl (by kernel_rfl) rfl (wA rfl) ?_
         refine qy (by kernel_rfl) ?_
         refine qO ⟨(b10, l', C'), ?_⟩ ?_
         · (try dsimp only); exact hw'
         · (try dsimp only); exact qP _
       ·
        refine qp rfl rfl rfl (qV) ?_
        rintro t10 _ ⟨b10, rfl, rfl⟩
        refine TrS.one (i := 3) (by kernel_rfl) rfl ?_
        refine qQ rfl rfl rfl (zQ (r := v) rfl (ky hv) hv) <| TrS.one (i := 6) (by kernel_rfl) rfl ?_
        refine qp rfl rfl rfl (qn rfl (wM (C) (yr W v C hw a.n hnn (by omega) hsz.2))) ?_
        rintro t80 _ ⟨l', C', rfl, hw', rfl⟩
        refine TrS.take 7 rfl rfl (by kernel_rfl) rfl (w6 rfl) ?_
        refine TrS.take 8 rfl rfl (by kernel_rfl) rfl (qU rfl rfl) ?_
        refine TrS.take 9 rfl rfl (by kernel_rfl) rfl (qU rfl rfl) ?_
        refine TrS.one (i := 11) (by kernel_rfl) rfl ?_
        refine w9 rfl rfl rfl (qW (l := node0V) rfl rfl rfl hw'.len hw'.one) <| TrS.take 12 rfl rfl (by kernel_rfl) rfl (wA rfl) ?_
        refine qy (by kernel_rfl) ?_
        refine qO ⟨(b10, l', C'), ?_⟩ ?_
        · (try dsimp only); exact hw'
        · (try dsimp only); exact qP _
      ·
       refine qp rfl rfl rfl (qV) ?_
       rintro t10 _ ⟨b10, rfl, rfl⟩
       refine wg (i := 3) (j := 5) (by kernel_rfl) rfl ?_ ?_
       ·
        refine qQ rfl rfl rfl (zQ (r := v) rfl (ky hv) hv) <| TrS.one (i := 5) (by kernel_rfl) rfl ?_
        refine qQ rfl rfl rfl (qG rfl rfl) <| TrS.one (i := 6) (by kernel_rfl) rfl ?_
        refine qp rfl rfl rfl (qn rfl (wM (C) (yr W v C hw a.n hnn (by omega) hsz.2))) ?_
        rintro t80 _ ⟨l', C', rfl, hw', rfl⟩
        refine TrS.take 7 rfl rfl (by kernel_rfl) rfl (w6 rfl) ?_
        refine TrS.take 8 rfl rfl (by kernel_rfl) rfl (qU rfl rfl) ?_
        refine TrS.take 9 rfl rfl (by kernel_rfl) rfl (qU rfl rfl) ?_
        refine TrS.one (i := 11) (by kernel_rfl) rfl ?_
        refine w9 rfl rfl rfl (qW (l := node0V) rfl rfl rfl hw'.len hw'.one) <| TrS.take 12 rfl rfl (by kernel_rfl) rfl (wA rfl) ?_
        refine qy (by kernel_rfl) ?_
        refine qO ⟨(b10, l', C'), ?_⟩ ?_
        · (try dsimp only); exact hw'
        · (try dsimp only); exact qP _
       ·
        refine qQ rfl rfl rfl (qG rfl rfl) <| TrS.one (i := 3) (by kernel_rfl) rfl ?_
        refine qQ rfl rfl rfl (zQ (r := v) rfl (ky hv) hv) <| TrS.one (i := 6) (by kernel_rfl) rfl ?_
        refine qp rfl rfl rfl (qn rfl (wM (C) (yr W v C hw a.n hnn (by omega) hsz.2))) ?_
        rintro t80 _ ⟨l', C', rfl, hw', rfl⟩
        refine TrS.take 7 rfl rfl (by kernel_rfl) rfl (w6 rfl) ?_
        refine TrS.take 8 rfl rfl (by kernel_rfl) rfl (qU rfl rfl) ?_
        refine TrS.take 9 rfl rfl (by kernel_rfl) rfl (qU rfl rfl) ?_
        refine TrS.one (i := 11) (by kernel_rfl) rfl ?_
        refine w9 rfl rfl rfl (qW (l := node0V) rfl rfl rfl hw'.len hw'.one) <| TrS.take 12 rfl rfl (by kernel_rfl) rfl (wA rfl) ?_
        refine qy (by kernel_rfl) ?_
        refine qO ⟨(b10, l', C'), ?_⟩ ?_
        · (try dsimp only); exact hw'
        · (try dsimp only); exact qP _
     rintro ⟨⟨y, l1, C1⟩, hcut⟩
     replace hcut : RefC ba bl (yf W a.n).2 l1 C1 := hcut
     have hw1 := hcut
     show Tr _ _ _ ([(0, .pointer (some ⟨x, 0, none⟩)), (9, .int .i64 (kG n D a.n).1), (10, .pointer (some ⟨y, 0, none⟩)), (11, .int .i64 (yf W a.n).1)]) ([(y, .cells l1.toArray 41 (0, 0))] :: StD x p v md nx dn od :: Cn' :: C1 :: G :: I :: F) _ _
     refine Tr.seq <| Tr.region <| q9 (qA rfl) <| q9 (w7 rfl hw1.len) <| q9 (qJ rfl) <| q9 (qD rfl) <| qK (yT (r := stV p l1 md nx dn) rfl rfl (QR hv hw1.len) (by rw [jS hv, hw1.len]; decide) hw1.len hw1.one) ?_
     refine qB <| QAt.seq <| Tr.seq <| Tr.region <| q9 (qA rfl) <| q9 (qA rfl) <| q9 (wR rfl rfl) <| q9 (qC rfl) <| qB <| QAt.seq <| Tr.ret <| qu <| ya <| qs (StD x p l1 md nx dn od :: Cn' :: C1 :: G :: I :: F) (.inl rfl) rfl (qd rfl) ?_
     have hc := Za hP.cpl hI a.n
     exact ⟨congrArg Value.bool (decide_eq_true hc.1), p, md, l1, nx, od, _, _, D, Cn', C1, ba, bl, ⟨hc.2.1, hc.2.2, by push_cast; omega⟩, hn', hw1, hD, by rw [hdn]⟩
    ·
     refine Tr.seq <| Tr.region <| q9 (wR rfl rfl) <| q9 (qC rfl) <| qB <| QAt.seq <| qI rfl (fun hc15 => ?_) (fun hc15 => ?_)
     ·
      refine Tr.seq <| Tr.region <| q9 (qD rfl) <| q9 (qG rfl rfl) <| q9 (Wq rfl rfl) <| q9 (qC rfl) <| qB <| QAt.seq <| Tr.seq <| Tr.drawn qm <| qr [(96, .pure _), (97, .pure _), (98, .pure _), (99, .pure _), (100, .pure _), (101, .pure _), (102, .pure _), (103, .pure _), (104, .pure _)] (by kernel_rfl) rfl rfl rfl wL (ParH.pure rfl (fun X => qA rfl) <| ParH.pure rfl (fun X => qJ rfl) <| ParH.pure rfl (fun X => qD rfl) <| ParH.pure rfl (fun X => qG rfl j4) <| ParH.pure rfl (fun X => qD rfl) <| ParH.pure rfl (fun X => qG rfl rfl) <| ParH.pure rfl (fun X => qA rfl) <| ParH.pure rfl (fun X => qA rfl) <| ParH.pure rfl (fun X => wV rfl rfl) <| ParH.nil rfl) ?_
      dsimp only [zG, List.drop, List.length]
      refine wa (by kernel_rfl) (qn rfl (k5 (Cn) (StD x p v md nx dn od) (Z8 p n W Cn (StD x p v md nx dn od) hn a.at_ (min a.n 3000) _ D hrd hP.cpl hI (by omega) (by omega)))) ?_
      rintro t105 _ ⟨u1, C1, rfl, hs1, rfl⟩
      refine qq (by kernel_rfl) (qA rfl) ?_
      refine qr [(106, .pure _), (107, .pure _), (13, .pure _)] (by kernel_rfl) rfl rfl rfl wL (ParH.pure rfl (fun X => qR rfl rfl) <| ParH.pure rfl (fun X => qR rfl rfl) <| ParH.pure rfl (fun X => qC rfl) <| ParH.nil rfl) ?_
      dsimp only [zG, List.drop, List.length]
      refine qq (by kernel_rfl) (qC rfl) ?_
      refine qt <| QAt.seq <| Tr.seq <| Tr.drawn qm <| qr [(109, .pure _), (110, .pure _), (111, .pure _), (112, .pure _), (113, .pure _), (114, .pure _), (115, .pure _)] (by kernel_rfl) rfl rfl rfl wL (ParH.pure rfl (fun X => qA rfl) <| ParH.pure rfl (fun X => qJ rfl) <| ParH.pure rfl (fun X => qD rfl) <| ParH.pure rfl (fun X => zQ (r := v) rfl (ky hv) hv) <| ParH.pure rfl (fun X => qD rfl) <| ParH.pure rfl (fun X => qG rfl rfl) <| ParH.pure rfl (fun X => qA rfl) <| ParH.nil rfl) ?_
      dsimp only [zG, List.drop, List.length]
      refine wa (by kernel_rfl) (qn rfl (wM (C) (lrread_ok W v C hw a.at_ (min a.n 3000) hat (by omega) hsz))) ?_
      rintro t116 _ ⟨u2, C2, rfl, hs2, rfl⟩
      refine qq (by kernel_rfl) (qA rfl) ?_
      refine qr [(117, .pure _), (118, .pure _), (15, .pure _)] (by kernel_rfl) rfl rfl rfl wL (ParH.pure rfl (fun X => qR rfl rfl) <| ParH.pure rfl (fun X => qR rfl rfl) <| ParH.pure rfl (fun X => qC rfl) <| ParH.nil rfl) ?_
      dsimp only [zG, List.drop, List.length]
      refine qq (by kernel_rfl) (qC rfl) ?_
      refine qt <| QAt.seq <| Tr.seq <| Tr.region <| q9 (qA rfl) <| q9 (qA rfl) <| q9 (wR rfl rfl) <| q9 (qA rfl) <| qN (s := 122) rfl (fun hg19_3 => ?_) (fun hg19_3 => ?_)
      ·
       refine qE rfl rfl (qA rfl) <| qE rfl rfl (qA rfl) <| qE rfl rfl (qw rfl (yc (C1) (C2) (equal_ok u1 u2 C1 C2 _ _ hs1 hs2 (by have := readB_len W a.at_ (min a.n 3000) (by omega); omega)))) ?_
       refine q9 (qT rfl rfl) <| q9 (qC rfl) <| qB <| QAt.seq <| Tr.ret <| qu <| ya <| qs (StD x p v md nx dn od :: Cn :: C :: G :: I :: F) (.inl rfl) rfl (qd rfl) ?_
       exact ⟨congrArg Value.bool (decide_eq_true rfl), p, md, v, nx, od, n, W, D, Cn, C, ba, bl, hP.up, hn, hw, hD, by rw [hdn]⟩
      · exact absurd rfl hg19_3
     ·
      refine Tr.seq <| Tr.region <| q9 (wR rfl rfl) <| q9 (qC rfl) <| qB <| QAt.seq <| qI rfl (fun hc20 => ?_) (fun hc20 => ?_)
      ·
       refine Tr.seq ?_
       have hll := xo W
       have hr : ∀ z ∈ x7 nx (zf W).length, 1 ≤ z ∧ z ≤ 65535 := atsOf_rng hI.nx (by omega)
       obtain ⟨hcc1, hcc2, hcc3, hcc4⟩ := commit_cpl hP.cpl hI rfl rfl (by omega) hr
       have hci := (commit_inv hI rfl rfl).1
       refine Tr.region <| q9 (qA rfl) <| qF (qn rfl (xt (StD x p v md nx dn od) (Cn) (C) (G) (lcommit_ok H HP x p md v nx dn od n W D Cn C G (zf W) (x7 nx (zf W).length) rfl rfl hn hw hD hg hP.cpl.ok hP.fl (hP.cpl.parts hI.has) hP.cpl.num hP.cpl.ver hI.nx (by omega) (by omega) (by omega) hr hcc2 (hcc4 hP.cpl.ok hP.fl) hcc3))) ?_
       rintro t130 _ ⟨rfl, v', C', Cn', od', hn', hw', hD', rfl⟩
       refine q9 (qC rfl) <| qB <| QAt.seq <| Tr.ret <| qu <| ya <| qs (StD x p v' md (nx + (zf W).length) dn od' :: Cn' :: C' :: G :: I :: F) (.inl rfl) rfl (qd rfl) ?_
       exact ⟨rfl, p, md, v', _, od', _, _, _, Cn', C', ba, bl, ⟨hcc1, hci, by push_cast; omega⟩, hn', hw', hD', by rw [hdn]⟩
      ·
       refine Tr.seq <| Tr.region <| q9 (wR rfl rfl) <| q9 (qC rfl) <| qB <| QAt.seq <| qI rfl (fun hc22 => ?_) (fun hc22 => ?_)
       ·
        refine Tr.seq ?_
        obtain ⟨n', hnc, hld⟩ : ∃ n', (zf W = [] → W.self.at_ ≠ 0 → Cpl n' W) ∧ (zf W = [] → W.self.at_ ≠ 0 → ∀ (w0 : World) (F : Res), FnT Tryz.prog w0 68 #[.agg (wW ((D W.self.at_).getD Sec.zero)).toArray, .int .i64 W.self.at_, .func (.func 11) #[.pointer (some ⟨x, 0, none⟩)] #[]] (StD x p v md nx dn od :: G :: F) (fun v' L' => ∃ p' Cn', v' = .tuple #[.pointer (some ⟨p', 0, none⟩), .int .i64 0] ∧ NodeC p' n' Cn' ∧ L' = Cn' :: StD x p v md nx dn od :: G :: F)) := by
          by_cases hc : zf W = [] ∧ W.self.at_ ≠ 0
          · obtain ⟨n', h1, h2⟩ := load_cpl hI (by omega) hc.1 hc.2
            exact ⟨n', fun _ _ => h1, fun _ _ w0 F => h2 w0 F _ G _ hg hrd⟩
          · exact ⟨n, fun h1 h2 => absurd ⟨h1, h2⟩ hc, fun h1 h2 => absurd ⟨h1, h2⟩ hc⟩
        refine Tr.region <| q9 (qA rfl) <| qF (qn rfl (xt (StD x p v md nx dn od) (Cn) (C) (G) (lload_ok x p md v nx dn hdn od n n' W D Cn C G hn hw hD hld))) ?_
        rintro t134 _ ⟨rfl, p', Cn', hn', rfl⟩
        refine q9 (qC rfl) <| qB <| QAt.seq <| Tr.ret <| qu <| ya <| qs (StD x p' v md nx dn od :: Cn' :: C :: G :: I :: F) (.inl rfl) rfl (qd rfl) <| ⟨rfl, p', md, v, nx, od, _, W, D, Cn', C, ba, bl, ⟨?_, hI, by push_cast; omega⟩, hn', hw, hD, by rw [hdn]⟩
        split
        · rename_i hc; exact hnc hc.1 hc.2
        · exact hP.cpl
       ·
        refine Tr.seq <| Tr.region <| q9 (wR rfl rfl) <| q9 (qC rfl) <| qB <| QAt.seq <| qI rfl (fun hc24 => ?_) (fun hc24 => ?_)
        ·
         refine Tr.seq <| Tr.region <| q9 (wF rfl) <| q9 (wF rfl) <| q9 (wF rfl) <| q9 (qD rfl) <| q9 (qG rfl rfl) <| q9 (QX rfl rfl) <| q9 (wF rfl) <| q9 (qD rfl) <| q9 (qG rfl rfl) <| q9 (QX rfl rfl) <| q9 (wF rfl) <| q9 (qD rfl) <| q9 (qG rfl rfl) <| q9 (QX rfl rfl) <| q9 (wF rfl) <| qF (w5 rfl rfl rfl) ?_
         rintro t152 _ ⟨b152, rfl, rfl⟩
         refine q9 (qC rfl) <| qB <| QAt.seq <| Tr.seq ?_
         obtain ⟨r, hr⟩ : ∃ r, a.at_.tmod 6 = r := ⟨_, rfl⟩
         have hr6 := tmod6 a.at_
         rw [hr] at hr6
         obtain ⟨j, hj⟩ : ∃ j : Nat, (r + 6) % 6 = j := ⟨((r + 6) % 6).toNat, by omega⟩
         obtain ⟨k, hk⟩ : ∃ k, (plA a)[j]? = some k := ⟨_, List.getElem?_eq_getElem (show j < 6 by omega)⟩
         have hkp := plA_ok a k (List.mem_of_getElem? hk)
         refine yW (L' := [(b152, .cells ((plA a).flatMap wt ++ []).toArray 65 (0, 0))] :: [(b3, .cells [.int .i64 a.kind, .int .i64 a.at_, .int .i64 a.n, .slice a.q a.bs.length a.c].toArray 25 (0, 0))] :: StD x p v md nx dn od :: Cn :: C :: G :: I :: F) (y7 rfl) <| Tr.region <| q9 (qA rfl) <| q9 (qD rfl) <| q9 (qG rfl rfl) <| q9 (op_remt rfl rfl (by decide)) ?_
         rw [hr]
         refine q9 (qj rfl rfl (by omega)) <| q9 (jV rfl rfl (by omega) (by omega)) <| q9 (qf (j := j) (off := j * 2) rfl rfl hj (by omega) (by simp)) ?_
         refine q9 (wk (j := j) zb rfl hk rfl) <| qF (qV) ?_
         rintro t18 _ ⟨b18, rfl, rfl⟩
         refine qK (qW (l := [Value.int .i64 0, Value.int .i64 0]) (vs := wt k) rfl rfl rfl rfl rfl) <| qB <| QAt.seq <| Tr.seq <| Tr.drawn qm <| qr [(161, .pure _), (162, .pure _), (163, .pure _), (164, .pure _), (165, .pure _)] (by kernel_rfl) rfl rfl rfl wL (ParH.pure rfl (fun X => qA rfl) <| ParH.pure rfl (fun X => qJ rfl) <| ParH.pure rfl (fun X => qD rfl) <| ParH.pure rfl (fun X => zQ (r := v) rfl (ky hv) hv) <| ParH.pure rfl (fun X => w7 (l := wt k) rfl rfl) <| ParH.nil rfl) ?_
         dsimp only [zG, List.drop, List.length]
         refine qq (by kernel_rfl) (qw rfl (zM (C) (KP W v C hw k hkp))) ?_
         refine qq (by kernel_rfl) (qC rfl) ?_
         refine qt <| QAt.seq <| Tr.seq ?_
         have hmc := move_cpl hP.cpl hI hkp (qZ W k)
         have hmv := fun (F : Res) => move_ok (w0 := w0) (F := F) H HP p n Cn (StD x p v md nx dn od) G hn hg hP.cpl.ok k (qZ W k) _ D hrd
         rw [hP.cpl.num, hP.cpl.ver] at hmv
         have hlv := fun (w0 : World) (F : Res) => rlive_ok (w0 := w0) (F := F) W v C hw k hkp (qZ W k)
         rw [hI.num, hI.ver] at hlv
         refine Tr.drawn qm <| qr [(168, .pure _), (169, .pure _), (170, .pure _), (171, .pure _), (172, .pure _), (173, .pure _), (174, .pure _), (175, .pure _), (176, .pure _), (177, .pure _)] (by kernel_rfl) rfl rfl rfl wL (ParH.pure rfl (fun X => qA rfl) <| ParH.pure rfl (fun X => qJ rfl) <| ParH.pure rfl (fun X => qD rfl) <| ParH.pure rfl (fun X => qG rfl j4) <| ParH.pure rfl (fun X => qA rfl) <| ParH.pure rfl (fun X => w7 (l := wt k) rfl rfl) <| ParH.pure rfl (fun X => qw rfl (zM (StD x p v md nx dn od) (Kc x p md v nx dn od W C hw k))) <| ParH.pure rfl (fun X => qA rfl) <| ParH.pure rfl (fun X => qA rfl) <| ParH.pure rfl (fun X => wV rfl rfl) <| ParH.nil rfl) ?_
         dsimp only [zG, List.drop, List.length]
         refine wa (by kernel_rfl) (qn rfl (jB (Cn) (StD x p v md nx dn od) (G) (hmv _))) ?_
         rintro t178 _ ⟨Cn', rfl, hn', rfl⟩
         refine qq (by kernel_rfl) (qA rfl) ?_
         refine qr [(179, .pure _), (180, .pure _), (20, .pure _)] (by kernel_rfl) rfl rfl rfl wL (ParH.pure rfl (fun X => qR rfl rfl) <| ParH.pure rfl (fun X => qR rfl rfl) <| ParH.pure rfl (fun X => qC rfl) <| ParH.nil rfl) ?_
         dsimp only [zG, List.drop, List.length]
         refine qq (by kernel_rfl) (qC rfl) ?_
         refine qt <| QAt.seq <| Tr.seq <| Tr.drawn qm <| qr [(181, .pure _), (182, .pure _), (183, .pure _), (184, .pure _), (185, .pure _), (186, .pure _), (187, .pure _), (188, .pure _), (189, .pure _), (190, .pure _)] (by kernel_rfl) rfl rfl rfl wL (ParH.pure rfl (fun X => qA rfl) <| ParH.pure rfl (fun X => qJ rfl) <| ParH.pure rfl (fun X => qD rfl) <| ParH.pure rfl (fun X => zQ (r := v) rfl (ky hv) hv) <| ParH.pure rfl (fun X => qD rfl) <| ParH.pure rfl (fun X => qG rfl rfl) <| ParH.pure rfl (fun X => qD rfl) <| ParH.pure rfl (fun X => qG rfl rfl) <| ParH.pure rfl (fun X => wF rfl) <| ParH.pure rfl (fun X => qA rfl) <| ParH.nil rfl) ?_
         dsimp only [zG, List.drop, List.length]
         refine qq (by kernel_rfl) (qw rfl (zM (C) (hlv w0 _))) ?_
         refine qq (by kernel_rfl) (qC rfl) ?_
         refine qt <| QAt.seq <| zA (Γ := {pΓ : (RS) × (List Value) × (qM) // (fun (W1 : RS) (l1 : List Value) (C1 : qM) => RefC ba bl W1 l1 C1 ∧ W1 = (if jv W k (qZ W k) then y4 W k else W)) pΓ.1 pΓ.2.1 pΓ.2.2}) (fun g => (fun (W1 : RS) (l1 : List Value) (C1 : qM) => [(20, .bool (decide (jv W k (qZ W k)))), (21, .int .i64 0), (22, .bool (decide (jv W k (qZ W k))))]) g.1.1 g.1.2.1 g.1.2.2) (fun g => (fun (W1 : RS) (l1 : List Value) (C1 : qM) => StD x p l1 md nx dn od :: Cn' :: C1 :: G :: I :: F) g.1.1 g.1.2.1 g.1.2.2) ?_ ?_
         ·
          refine Tr.seq ?_
          rw [hmc.1]
          refine Tr.region <| q9 (qA rfl) <| qB <| QAt.seq <| qI rfl (fun hc30 => ?_) (fun hc30 => ?_)
          ·
           refine yL qm (show TrS _ _ _ _ [false, false, false, false, false, false, false, false, false, false] _ _ _ from ?_)
           refine TrS.take 0 rfl rfl (by kernel_rfl) rfl (w6 rfl) ?_
           refine TrS.take 1 rfl rfl (by kernel_rfl) rfl (w6 rfl) ?_
           refine TrS.take 2 rfl rfl (by kernel_rfl) rfl (y0 rfl) ?_
           refine TrS.take 3 rfl rfl (by kernel_rfl) rfl (wY rfl) ?_
           refine wg (i := 4) (j := 5) (by kernel_rfl) rfl ?_ ?_
           ·
            refine qQ rfl rfl rfl (zQ (r := v) rfl (ky hv) hv) <| TrS.one (i := 5) (by kernel_rfl) rfl ?_
            refine qQ rfl rfl rfl (w7 (l := wt k) rfl rfl) <| TrS.one (i := 6) (by kernel_rfl) rfl ?_
            refine qp rfl rfl rfl (qn rfl (wM (C) (Ji W v C hw k hkp))) ?_
            rintro t199 _ ⟨l', C', rfl, hw', rfl⟩
            refine TrS.take 7 rfl rfl (by kernel_rfl) rfl (y0 rfl) ?_
            refine TrS.take 8 rfl rfl (by kernel_rfl) rfl (wY rfl) ?_
            refine TrS.one (i := 9) (by kernel_rfl) rfl ?_
            refine w9 rfl rfl rfl (yT (r := stV p l' md nx dn) rfl rfl (QR hv hw'.len) (by rw [jS hv, hw'.len]; decide) hw'.len hw'.one) ?_
            refine qy (by kernel_rfl) ?_
            refine qO ⟨(y4 W k, l', C'), ?_⟩ ?_
            · (try dsimp only); exact ⟨hw', by rw [if_pos hc30]⟩
            · (try dsimp only); exact qP _
           ·
            refine qQ rfl rfl rfl (w7 (l := wt k) rfl rfl) <| TrS.one (i := 4) (by kernel_rfl) rfl ?_
            refine qQ rfl rfl rfl (zQ (r := v) rfl (ky hv) hv) <| TrS.one (i := 6) (by kernel_rfl) rfl ?_
            refine qp rfl rfl rfl (qn rfl (wM (C) (Ji W v C hw k hkp))) ?_
            rintro t199 _ ⟨l', C', rfl, hw', rfl⟩
            refine TrS.take 7 rfl rfl (by kernel_rfl) rfl (y0 rfl) ?_
            refine TrS.take 8 rfl rfl (by kernel_rfl) rfl (wY rfl) ?_
            refine TrS.one (i := 9) (by kernel_rfl) rfl ?_
            refine w9 rfl rfl rfl (yT (r := stV p l' md nx dn) rfl rfl (QR hv hw'.len) (by rw [jS hv, hw'.len]; decide) hw'.len hw'.one) ?_
            refine qy (by kernel_rfl) ?_
            refine qO ⟨(y4 W k, l', C'), ?_⟩ ?_
            · (try dsimp only); exact ⟨hw', by rw [if_pos hc30]⟩
            · (try dsimp only); exact qP _
          ·
           refine Tr.skip <| qO ⟨(W, v, C), ?_⟩ ?_
           · (try dsimp only); exact ⟨hw, by rw [if_neg hc30]⟩
           · (try dsimp only); exact qP _
         rintro ⟨⟨W1, l1, C1⟩, hcut⟩
         replace hcut : RefC ba bl W1 l1 C1 ∧ W1 = (if jv W k (qZ W k) then y4 W k else W) := hcut
         obtain ⟨hw1, hW1⟩ := hcut
         show Tr _ _ _ ([(20, .bool (decide (jv W k (qZ W k)))), (21, .int .i64 0), (22, .bool (decide (jv W k (qZ W k))))]) (StD x p l1 md nx dn od :: Cn' :: C1 :: G :: I :: F) _ _
         refine Tr.seq <| Tr.region <| q9 (qA rfl) <| q9 (wR rfl rfl) <| q9 (qA rfl) <| qN (s := 204) rfl (fun hg32_2 => ?_) (fun hg32_2 => ?_)
         ·
          refine qE rfl rfl (qA rfl) <| qE rfl rfl (qA rfl) <| qE rfl rfl (op_eqlB rfl rfl Tryz.underlying4) <| q9 (qT rfl rfl) <| q9 (qC rfl) <| qB <| QAt.seq <| Tr.ret <| qu <| ya <| qs (StD x p l1 md nx dn od :: Cn' :: C1 :: G :: I :: F) (.inl rfl) rfl (qd rfl) ?_
          exact ⟨by simp, p, md, l1, nx, od, _, _, D, Cn', C1, ba, bl, ⟨by rw [hW1]; exact hmc.2.1, by rw [hW1]; exact hmc.2.2, by push_cast; omega⟩, hn', hw1, hD, by rw [hdn]⟩
         · exact absurd rfl hg32_2
        ·
         refine Tr.seq <| Tr.region <| q9 (wR rfl rfl) <| q9 (qC rfl) <| qB <| QAt.seq <| qI rfl (fun hc33 => ?_) (fun hc33 => ?_)
         ·
          refine Tr.seq ?_
          have hmk := ZP a.n (M := 7) (by omega) (by omega)
          refine Tr.drawn qm <| qr [(211, .pure _), (212, .pure _), (213, .pure _), (214, .pure _), (215, .pure _), (216, .pure _), (217, .pure _), (218, .pure _)] (by kernel_rfl) rfl rfl rfl wL (ParH.pure rfl (fun X => qA rfl) <| ParH.pure rfl (fun X => qJ rfl) <| ParH.pure rfl (fun X => qD rfl) <| ParH.pure rfl (fun X => qG rfl j4) <| ParH.pure rfl (fun X => qD rfl) <| ParH.pure rfl (fun X => qG rfl rfl) <| ParH.pure rfl (fun X => QX rfl rfl) <| ParH.pure rfl (fun X => wo rfl (by simp [IntKind.min, IntKind.max, IntKind.bits, IntKind.signed]; omega)) <| ParH.nil rfl) ?_
          dsimp only [zG, List.drop, List.length]
          refine wa (by kernel_rfl) (qn rfl (k5 (Cn) (G) (setTime_ok p n Cn G hn hg (zH .and .i64 a.n 7)))) ?_
          rintro t219 _ ⟨rfl, Cn', hn', rfl⟩
          refine qt <| QAt.seq <| yL qm (show TrS _ _ _ _ [false, false, false, false, false, false, false, false, false, false, false, false, false] _ _ _ from ?_)
          refine TrS.take 0 rfl rfl (by kernel_rfl) rfl (w6 rfl) ?_
          refine TrS.take 1 rfl rfl (by kernel_rfl) rfl (w6 rfl) ?_
          refine TrS.take 2 rfl rfl (by kernel_rfl) rfl (y0 rfl) ?_
          refine TrS.take 3 rfl rfl (by kernel_rfl) rfl (wY rfl) ?_
          refine TrS.take 5 rfl rfl (by kernel_rfl) rfl (wY rfl) ?_
          refine wg (i := 4) (j := 6) (by kernel_rfl) rfl ?_ ?_
          ·
           refine qQ rfl rfl rfl (zQ (r := v) rfl (ky hv) hv) <| TrS.one (i := 6) (by kernel_rfl) rfl ?_
           refine qQ rfl rfl rfl (qG rfl rfl) <| TrS.one (i := 7) (by kernel_rfl) rfl ?_
           refine qQ rfl rfl rfl (QX rfl rfl) <| TrS.one (i := 8) (by kernel_rfl) rfl ?_
           refine qQ rfl rfl rfl (wo rfl (by simp [IntKind.min, IntKind.max, IntKind.bits, IntKind.signed]; omega)) ?_
           refine TrS.one (i := 9) (by kernel_rfl) rfl ?_
           refine qp rfl rfl rfl (qn rfl (wM (C) (xe W v C hw (zH .and .i64 a.n 7)))) ?_
           rintro t229 _ ⟨l', C', rfl, hw', rfl⟩
           refine TrS.take 10 rfl rfl (by kernel_rfl) rfl (y0 rfl) ?_
           refine TrS.take 11 rfl rfl (by kernel_rfl) rfl (wY rfl) ?_
           refine TrS.one (i := 12) (by kernel_rfl) rfl ?_
           refine w9 rfl rfl rfl (yT (r := stV p l' md nx dn) rfl rfl (QR hv hw'.len) (by rw [jS hv, hw'.len]; decide) hw'.len hw'.one) ?_
           refine qy (by kernel_rfl) ?_
           refine QAt.block <| qO ⟨(ki n (zH .and .i64 a.n 7), kS W (zH .and .i64 a.n 7), l', Cn', C'), ?_⟩ ?_
           · (try dsimp only); exact ⟨hn', hw', Z0 hP.cpl hI _ (by omega)⟩
           · (try dsimp only); exact qP _
          ·
           refine qQ rfl rfl rfl (qG rfl rfl) <| wg (i := 4) (j := 7) (by kernel_rfl) rfl ?_ ?_
           ·
            refine qQ rfl rfl rfl (zQ (r := v) rfl (ky hv) hv) <| TrS.one (i := 7) (by kernel_rfl) rfl ?_
            refine qQ rfl rfl rfl (QX rfl rfl) <| TrS.one (i := 8) (by kernel_rfl) rfl ?_
            refine qQ rfl rfl rfl (wo rfl (by simp [IntKind.min, IntKind.max, IntKind.bits, IntKind.signed]; omega)) ?_
            refine TrS.one (i := 9) (by kernel_rfl) rfl ?_
            refine qp rfl rfl rfl (qn rfl (wM (C) (xe W v C hw (zH .and .i64 a.n 7)))) ?_
            rintro t229 _ ⟨l', C', rfl, hw', rfl⟩
            refine TrS.take 10 rfl rfl (by kernel_rfl) rfl (y0 rfl) ?_
            refine TrS.take 11 rfl rfl (by kernel_rfl) rfl (wY rfl) ?_
            refine TrS.one (i := 12) (by kernel_rfl) rfl ?_
            refine w9 rfl rfl rfl (yT (r := stV p l' md nx dn) rfl rfl (QR hv hw'.len) (by rw [jS hv, hw'.len]; decide) hw'.len hw'.one) ?_
            refine qy (by kernel_rfl) ?_
            refine QAt.block <| qO ⟨(ki n (zH .and .i64 a.n 7), kS W (zH .and .i64 a.n 7), l', Cn', C'), ?_⟩ ?_
            · (try dsimp only); exact ⟨hn', hw', Z0 hP.cpl hI _ (by omega)⟩
            · (try dsimp only); exact qP _
           ·
            refine qQ rfl rfl rfl (QX rfl rfl) <| wg (i := 4) (j := 8) (by kernel_rfl) rfl ?_ ?_
            ·
             refine qQ rfl rfl rfl (zQ (r := v) rfl (ky hv) hv) <| TrS.one (i := 8) (by kernel_rfl) rfl ?_
             refine qQ rfl rfl rfl (wo rfl (by simp [IntKind.min, IntKind.max, IntKind.bits, IntKind.signed]; omega)) ?_
             refine TrS.one (i := 9) (by kernel_rfl) rfl ?_
             refine qp rfl rfl rfl (qn rfl (wM (C) (xe W v C hw (zH .and .i64 a.n 7)))) ?_
             rintro t229 _ ⟨l', C', rfl, hw', rfl⟩
             refine TrS.take 10 rfl rfl (by kernel_rfl) rfl (y0 rfl) ?_
             refine TrS.take 11 rfl rfl (by kernel_rfl) rfl (wY rfl) ?_
             refine TrS.one (i := 12) (by kernel_rfl) rfl ?_
             refine w9 rfl rfl rfl (yT (r := stV p l' md nx dn) rfl rfl (QR hv hw'.len) (by rw [jS hv, hw'.len]; decide) hw'.len hw'.one) ?_
             refine qy (by kernel_rfl) ?_
             refine QAt.block <| qO ⟨(ki n (zH .and .i64 a.n 7), kS W (zH .and .i64 a.n 7), l', Cn', C'), ?_⟩ ?_
             · (try dsimp only); exact ⟨hn', hw', Z0 hP.cpl hI _ (by omega)⟩
             · (try dsimp only); exact qP _
            ·
             refine qQ rfl rfl rfl (wo rfl (by simp [IntKind.min, IntKind.max, IntKind.bits, IntKind.signed]; omega)) ?_
             refine TrS.one (i := 4) (by kernel_rfl) rfl ?_
             refine qQ rfl rfl rfl (zQ (r := v) rfl (ky hv) hv) <| TrS.one (i := 9) (by kernel_rfl) rfl ?_
             refine qp rfl rfl rfl (qn rfl (wM (C) (xe W v C hw (zH .and .i64 a.n 7)))) ?_
             rintro t229 _ ⟨l', C', rfl, hw', rfl⟩
             refine TrS.take 10 rfl rfl (by kernel_rfl) rfl (y0 rfl) ?_
             refine TrS.take 11 rfl rfl (by kernel_rfl) rfl (wY rfl) ?_
             refine TrS.one (i := 12) (by kernel_rfl) rfl ?_
             refine w9 rfl rfl rfl (yT (r := stV p l' md nx dn) rfl rfl (QR hv hw'.len) (by rw [jS hv, hw'.len]; decide) hw'.len hw'.one) ?_
             refine qy (by kernel_rfl) ?_
             refine QAt.block <| qO ⟨(ki n (zH .and .i64 a.n 7), kS W (zH .and .i64 a.n 7), l', Cn', C'), ?_⟩ ?_
             · (try dsimp only); exact ⟨hn', hw', Z0 hP.cpl hI _ (by omega)⟩
             · (try dsimp only); exact qP _
         ·
          refine Tr.skip <| QAt.block <| qO ⟨(n, W, v, Cn, C), ?_⟩ ?_
          · (try dsimp only); exact ⟨hn, hw, hP.cpl, hI⟩
          · (try dsimp only); exact qP _
  rintro ⟨⟨n1, W1, l1, Cn1, C1⟩, hcut⟩
  replace hcut : NodeC p n1 Cn1 ∧ RefC ba bl W1 l1 C1 ∧ Cpl n1 W1 ∧ Inv W1 D nx := hcut
  obtain ⟨hn1, hw1, hc1, hI1⟩ := hcut
  show Tr _ _ _ ([]) (StD x p l1 md nx dn od :: Cn1 :: C1 :: G :: I :: F) _ _
  refine Tr.seq <| Tr.region <| q9 (qC rfl) <| qB <| QAt.seq <| Tr.ret <| qs (StD x p l1 md nx dn od :: Cn1 :: C1 :: G :: I :: F) (.inl rfl) rfl (qd rfl) ?_
  exact ⟨rfl, p, md, l1, nx, od, n1, W1, D, Cn1, C1, ba, bl, ⟨hc1, hI1, by push_cast; omega⟩, hn1, hw1, hD, by rw [hdn]⟩
end Go.Proofs.YtjikpomndbkfgaaGreatDoor
namespace Go.Sx
open Go
variable {P : Program} {N : Nat} {w0 : World} {E : Env} {L : Res}
theorem op_convBytes {x : Operand} {t ty e b n c : Nat} {l : List Value} {et : TypeId} {S : Obj → Res} (hx : opv E x = some (.slice (some ⟨b, 0, none⟩) n c)) (ht : P.underlying t = some (.slice e)) (he : P.underlying e = some (.int .u8)) [ha : At L b (.cells l.toArray et (0, 0)) S] :
    Op1 P N w0 E L (.convert t t x) ty (.slice (some ⟨b, 0, none⟩) n c) (S (.cells l.toArray et (l.length, l.length + 1))) :=
  .of_run fun o a w h1 _ h3 h4 => by
    have hb := h4.get ha
    have hlt : b < w.heap.size := (Array.getElem?_eq_some_iff.1 hb).1
    have hsh : w.shape? b = some (et, l.length) := by simp [World.shape?, hb]
    refine ⟨w.freeze ⟨b, l.length, none⟩ 1, ?_, ?_⟩
    · rw [execOp, h1]
      simp [h3.eval hx, convert, qi ht, qi he, markStringish, hsh]
    · have hfz : w.freeze ⟨b, l.length, none⟩ 1 = { w with heap := w.heap.modify b fun
          | .cells c elem (lo, hi) => .cells c elem (if lo == hi then (l.length, l.length + 1) else (min lo l.length, max hi (l.length + 1)))
          | o => o } := by unfold World.freeze; rw [if_neg (by decide)]; rfl
      rw [hfz]
      refine h4.setAt ha _ rfl rfl rfl (by simp) ?_ (fun k hk => ?_)
      · show (w.heap.modify b _)[b]? = _
        rw [Array.getElem?_modify, if_pos rfl, hb]; rfl
      · show (w.heap.modify b _)[k]? = _
        rw [Array.getElem?_modify, if_neg (Ne.symm hk)]
end Go.Sx
namespace Go.Proofs.YtjikpomndbkfgaaGreatDoor
open Go Go.Sx Go.Nd
variable {w0 : World} {L F : Res} {ba bl : Nat}
set_option maxRecDepth 10000
def wAw : RS := (yM (W5 3 7 1) 1100 [97, 98]).2
theorem cut1100 : kN 1100 2 = [(8, 76, 78)] := by decide
theorem YU : yM (W5 3 7 1) 1100 [97, 98] = (0, { W5 3 7 1 with all := kQ [(8, 76, 78)] [97, 98] (W5 3 7 1).all, size := 1102 }) := by
  unfold yM
  rw [if_neg (by decide), show (([97, 98] : List Int).length : Int) = 2 from rfl, cut1100]
  rfl
theorem xJ (i : Int) : (wAw.all i).fresh = true ↔ i = 8 := by
  unfold wAw; rw [YU]
  show (kQ [(8, 76, 78)] [97, 98] (W5 3 7 1).all i).fresh = true ↔ _
  rw [(QP _ _ _ i).2]
  constructor
  · rintro (h | ⟨q, hq, e⟩)
    · cases h
    · rw [List.mem_singleton] at hq; subst hq; exact e.symm
  · intro e; exact .inr ⟨_, List.mem_singleton.2 rfl, e.symm⟩
theorem J3 (i : Int) : (wAw.all i).has = true ↔ i = 8 := by
  unfold wAw; rw [YU]
  show (kQ [(8, 76, 78)] [97, 98] (W5 3 7 1).all i).has = true ↔ _
  rw [(QP _ _ _ i).1]
  constructor
  · rintro (h | ⟨q, hq, e⟩)
    · cases h
    · rw [List.mem_singleton] at hq; subst hq; exact e.symm
  · intro e; exact .inr ⟨_, List.mem_singleton.2 rfl, e.symm⟩
theorem XM : wj 8 = (3, 0) := by decide
theorem XB {k : Int × Int} (hk : qo k) (h1 : k.1 ≠ 1) : wl wAw k = true ↔ k = (2, 0) := by
  unfold wAw; rw [YU]
  rcases qz hk with ⟨i, hi, rfl⟩ | rfl | rfl | rfl | ⟨j, hj, rfl⟩
  · exact absurd rfl h1
  · exact ⟨fun _ => rfl, fun _ => rfl⟩
  · exact ⟨fun h => (by cases h), fun h => (by cases h)⟩
  · exact ⟨fun h => (by cases h), fun h => (by cases h)⟩
  · exact ⟨fun h => (by cases h), fun h => (by cases h)⟩
theorem wAw_pend : zf wAw = [(1, 8), (3, 0), (2, 0)] := by
  classical
  rw [Z4]
  symm
  refine Qp (out := [(1, 8), (3, 0), (2, 0)]) (by decide) (fun k => ?_) (List.Perm.refl _) (by decide)
  rw [decide_eq_true_eq]
  have h8 : InB 8 := by unfold InB; omega
  have hcl : ¬ chL wAw := by
    rintro ⟨j, h0, h1, h | ⟨i, hi, hf, ha⟩⟩
    · have := (XB (zj ⟨h0, h1⟩) (by simp)).1 h; cases this
    · rw [(xJ i).1 hf, XM] at ha; cases ha
  constructor
  · intro h
    simp only [List.mem_cons, List.not_mem_nil, or_false] at h
    rcases h with rfl | rfl | rfl
    · exact ⟨zz h8, kb.2 ((xJ 8).2 rfl)⟩
    · exact ⟨zE, JC h8 ((xJ 8).2 rfl) ((J3 8).2 rfl) zE (by decide) (.inr (.inr XM))⟩
    · exact ⟨zy, JC h8 ((xJ 8).2 rfl) ((J3 8).2 rfl) zy (by decide) (.inl rfl)⟩
  · rintro ⟨hk, h⟩
    rcases qz hk with ⟨i, hi, rfl⟩ | rfl | rfl | rfl | ⟨j, hj, rfl⟩
    · have := (xJ i).1 (kb.1 h); subst this; simp
    · simp
    · simp
    · unfold prR at h; rw [if_neg (by decide), if_neg (by decide), if_neg (by decide), if_pos rfl] at h
      rcases h.1 with h | h
      · have := (XB zI (by decide)).1 h; cases this
      · exact absurd h hcl
    · unfold prR at h; rw [if_neg (by simp), if_pos rfl] at h
      rcases h.1 with h | ⟨i, hi, hf, ha⟩
      · have := (XB (zj hj) (by simp)).1 h; cases this
      · rw [(xJ i).1 hf, XM] at ha; cases ha
theorem wAw_idx : XI wAw = [8] := by
  have h1 : (XI wAw).Pairwise (· < ·) := (xB 1064).sublist List.filter_sublist
  have h2 : ∀ i, i ∈ XI wAw ↔ i ∈ ([8] : List Int) := fun i => by
    rw [QB, List.mem_singleton, J3]
    constructor
    · exact fun h => h.2
    · intro h; exact ⟨by rw [h]; unfold InB; omega, h⟩
  refine List.Perm.eq_of_pairwise (le := fun a b : Int => a < b) (fun a b _ _ h3 h4 => by omega) h1 (by simp) ?_
  exact (List.perm_ext_iff_of_nodup (h1.imp (fun h => Int.ne_of_lt h)) (by simp)).2 h2
theorem cost8 : V3 [8] = 3 := by decide
theorem awake_ok (H : j3 w0) (HP : xc) (G : qM) (hg : kJ G) : FnT Tryz.prog w0 6 #[] (G :: F) (fun v L' => v = .bool true ∧ L' = G :: F) := by
  have hrd := fun (x p md : Nat) (v : List Value) (od : Obj) (hv : v.length = 14) (hD : MapF (Value.int .i64) kf (fun _ => none) od) => xv x p md v 100 false od (fun _ => none) hv hD
  simp only [K1] at hrd
  obtain ⟨hc0, hi0⟩ := Yy
  obtain ⟨he, hc1, hi1⟩ := ZZ hc0 hi0 1100 [97, 98] (by decide)
  rw [show (yM (W5 3 7 1) 1100 [97, 98]).1 = 0 from by rw [YU]] at he
  rw [show (yM (W5 3 7 1) 1100 [97, 98]).2 = wAw from rfl] at hc1 hi1
  obtain ⟨n1, hn1⟩ : ∃ n1, (jC (Z7 3 7 1) (fun _ => none) 1100 [97, 98]).2 = n1 := ⟨_, rfl⟩
  rw [hn1] at hc1
  have hp1 : y3 n1 = [(1, 8), (3, 0), (2, 0)] := (hc1.parts hi1.has).trans wAw_pend
  have hx1 : jb n1 = [8] := (hc1.idx hi1.has).trans wAw_idx
  have hs1 : n1.size = 1102 := by rw [hc1.size]; unfold wAw; rw [YU]
  refine FnT.enter (E0 := []) (N := 69) Tryz.func6 rfl rfl rfl rfl ?_
  refine Tr.seq <| Tr.region <| q9 (qC rfl) <| qB <| QAt.seq <| Tr.seq <| Tr.region <| qF (qn rfl (wM (G) (X4 G hg))) ?_
  rintro t6 _ ⟨x, p, md, ba, bl, v, C, Cn, od, rfl, hn, hw, hD, rfl⟩
  refine q9 (qA rfl) <| q9 (qR rfl rfl) <| q9 (qR rfl rfl) <| q9 (qC rfl) <| q9 (qC rfl) <| qB <| QAt.seq <| Tr.seq <| Tr.seq <| Tr.region <| q9 (qA rfl) <| q9 (kM rfl) <| qB <| QAt.seq <| wD rfl <| Tr.skip <| QAt.seq <| Tr.seq <| Tr.region <| q9 (qA rfl) <| q9 (qJ rfl) <| q9 (qD rfl) <| q9 (qG rfl j4) <| qF (w5 rfl rfl rfl) ?_
  rintro t15 _ ⟨b15, rfl, rfl⟩
  refine q9 (op_convBytes rfl Tryz.underlying23 Tryz.underlying5) <| q9 (qA rfl) <| q9 (wV rfl rfl) <| qF (qn rfl (k5 (Cn) (StD x p v md 100 false od) (xu p (Z7 3 7 1) Cn (StD x p v md 100 false od) hn 1100 (some ⟨b15, 0, none⟩) 2 [97, 98] _ (fun _ => none) (hrd x p md v od hw.len hD) (by decide) (by decide) (by decide) (by decide) (by decide) (fun h => by cases h) (fun A => ⟨_, _, rfl, rfl, .inr ⟨b15, 0, (u8s [97, 98]).toArray, 5, (2, 3), rfl, List.mem_flatten.2 ⟨[(b15, .cells (u8s [97, 98]).toArray 5 (2, 3))], by simp [u8s], by simp⟩, rfl⟩⟩)))) ?_
  rintro t19 _ ⟨Cn', rfl, hn', rfl⟩
  rw [he, hn1] at *
  refine q9 (qC rfl) <| qB <| QAt.seq <| Tr.seq <| Tr.region <| q9 (qA rfl) <| q9 (qJ rfl) <| q9 (qD rfl) <| q9 (qG rfl j4) <| qF (qn rfl (k5 (Cn') (G) (pending_ok H HP p n1 Cn' G hn' hg hc1.ok))) ?_
  rintro t24 _ ⟨Cp, hsp, rfl⟩
  refine q9 (qC rfl) <| qB ?_
  rw [hp1] at hsp
  replace hsp : SlC 62 4 t24 3 (([(1, 8), (3, 0), (2, 0)] : List (Int × Int)).flatMap (Qf n1.num n1.ver)) Cp := hsp
  obtain ⟨pp, cp, hvp⟩ := hsp.slice
  refine QAt.seq <| Tr.seq ?_
  rcases hsp with ⟨-, h0, -⟩ | ⟨bP, capP, spP, rfl, hcsP, rfl, hcapP, hncP⟩
  · cases h0
  refine Tr.region <| q9 (qA rfl) <| q9 (wR rfl rfl) <| q9 (qA rfl) <| qN (s := 27) rfl (fun hg6_2 => ?_) (fun hg6_2 => ?_)
  ·
   refine qE rfl rfl (qA rfl) <| qE rfl rfl (qJ rfl) <| qE rfl rfl (qD rfl) <| qE rfl rfl (qG rfl j4) <| qE rfl rfl (qw rfl (zM (Cn') (J8 p n1 Cn' hn'))) <| qE rfl rfl (wR rfl rfl) <| q9 (qT rfl rfl) <| q9 (qA rfl) <| qN (s := 35) rfl (fun hg6_10 => ?_) (fun hg6_10 => ?_)
   ·
    refine qE rfl rfl (qA rfl) <| qE rfl rfl (qg rfl) <| qE rfl rfl (wR rfl rfl) <| q9 (qT rfl rfl) <| q9 (qA rfl) <| qN (s := 40) rfl (fun hg6_15 => ?_) (fun hg6_15 => ?_)
    ·
     refine qE rfl rfl (qA rfl) <| qE rfl rfl (qf (j := 0) (off := 0) rfl rfl rfl (by decide) rfl) <| qE rfl rfl (qk rfl) <| qE rfl rfl (qG rfl rfl) <| qE rfl rfl (wR rfl rfl) <| q9 (qT rfl rfl) <| q9 (qA rfl) <| qN (s := 47) rfl (fun hg6_22 => ?_) (fun hg6_22 => ?_)
     ·
      refine qE rfl rfl (qA rfl) <| qE rfl rfl (qf (j := 1) (off := 4) rfl rfl rfl (by decide) rfl) <| qE rfl rfl (qk rfl) <| qE rfl rfl (qG rfl rfl) <| qE rfl rfl (wR rfl rfl) <| q9 (qT rfl rfl) <| q9 (qA rfl) <| qN (s := 54) rfl (fun hg6_29 => ?_) (fun hg6_29 => ?_)
      ·
       refine qE rfl rfl (qA rfl) <| qE rfl rfl (qf (j := 2) (off := 8) rfl rfl rfl (by decide) rfl) <| qE rfl rfl (qk rfl) <| qE rfl rfl (qG rfl rfl) <| qE rfl rfl (wR rfl rfl) <| q9 (qT rfl rfl) <| q9 (qA rfl) <| qN (s := 61) rfl (fun hg6_36 => ?_) (fun hg6_36 => ?_)
       ·
        refine qE rfl rfl (qA rfl) <| qE rfl rfl (qJ rfl) <| qE rfl rfl (qD rfl) <| qE rfl rfl (qG rfl j4) <| qE rfl rfl (qw rfl (zM (Cn') (cost_node_ok H p n1 Cn' hn' hc1.ok))) <| qE rfl rfl (wR rfl rfl) <| q9 (qT rfl rfl) <| q9 (qC rfl) <| qB <| QAt.seq <| Tr.ret <| qs (G :: F) (.inl rfl) rfl (qd rfl) ?_
        exact ⟨by rw [hx1, cost8]; rfl, rfl⟩
       · exact absurd rfl hg6_36
      · exact absurd rfl hg6_29
     · exact absurd rfl hg6_22
    · exact absurd rfl hg6_15
   · exact absurd hs1 hg6_10
  · exact absurd rfl hg6_2
section
variable {W : RS} {D : Int → Option Sec} {nx : Int}
theorem YW {size : Int} (h : 0 ≤ size ∧ size ≤ 136192) : (yf W size).1 = 0 ∧ (yf W size).2.size = size := by
  unfold yf
  rw [if_neg (by omega), if_neg (by omega)]
  refine ⟨rfl, ?_⟩
  dsimp only
  unfold Wc
  split
  · rfl
  · rename_i e; exact Classical.byContradiction fun h => e h
theorem first_keep {size z : Int} (h0 : 0 ≤ z) (hz : z < size) (hs : size ≤ 136192) : zh (zq W size).all z = zh W.all z := by
  unfold zq
  split
  · unfold zh
    dsimp only
    by_cases e : z / 128 = size / 128
    · rw [e, wx]
      show ((W.all (size / 128)).s.clr (size % 128).toNat).l.getD (z % 128).toNat 0 = _
      rw [K8 _ _ _ (by omega) (by omega), if_neg (by omega)]
    · rw [wI _ _ e]
  · rfl
theorem YX {n : NS} (hC : Cpl n W) (hI : Inv W D nx) {size z : Int} (hs : 0 ≤ size ∧ size ≤ 136192) (h0 : 0 ≤ z) (hz : z < size) : zh (yf W size).2.all z = zh W.all z := by
  obtain ⟨n1, -, hC1, hI1, -, -, -⟩ := Kk hC hI hs
  rw [← first_keep (W := W) h0 hz hs.2]
  unfold yf
  rw [if_neg (by omega), if_neg (by omega)]
  dsimp only
  obtain ⟨W1, hW1⟩ : ∃ W1, zq W size = W1 := ⟨_, rfl⟩
  rw [hW1] at hI1 ⊢
  have hP := WV (s := size) hs
  obtain ⟨P, hPe⟩ : ∃ P : Nat, wy size = P := ⟨(wy size).toNat, by omega⟩
  have hR := TR.all hI1 P
  have hth : yC W1 size = ((zR 1064).drop P).foldl yG (W1, false) := by unfold yC; rw [hPe]; rfl
  rw [← hth] at hR
  have hall : ∀ X : RS, (Wc X size).all = X.all := fun X => by unfold Wc; split <;> rfl
  rw [hall]
  unfold zh
  rw [hR.b1 (z / 128) ⟨by omega, by omega⟩ (fun e => by
    have := jZ.1 e.1
    unfold wy at hPe
    split at hPe <;> omega)]
theorem KO (hI : Inv W D nx) {z : Int} (h0 : 0 ≤ z) (hz : z < 136192) (hs : W.size ≤ z) : zh W.all z = 0 := by
  have := hI.zero (z / 128) ⟨by omega, by omega⟩ (z % 128).toNat (by omega) (by omega)
  exact this
theorem WP {W : RS} {m : Int} (h0 : 0 ≤ m) (hm : m ≤ W.size) {i : Nat} (hi : (i : Int) < m) : (zr W 0 m)[i]? = some (zh W.all i) := by
  unfold zr
  rw [if_neg (by omega)]
  unfold Qo
  rw [List.getElem?_map, List.getElem?_range (by omega)]
  simp [byteR_A]
theorem QU {W : RS} {m : Int} (h0 : 0 ≤ m) (hm : m ≤ W.size) : (zr W 0 m).length = m.toNat := by
  unfold zr
  rw [if_neg (by omega)]
  unfold Qo
  rw [List.length_map, List.length_range]; omega
theorem write_res (W : RS) {a : Int} {bs : List Int} (h : 0 ≤ a ∧ a + bs.length ≤ 136192) (hb : IsB bs) : (yM W a bs).1 = 0 ∧ W.size ≤ (yM W a bs).2.size ∧
    ∀ z, 0 ≤ z → zh (yM W a bs).2.all z = if a ≤ z ∧ z < a + bs.length then bs.getD (z - a).toNat 0 else zh W.all z := by
  have hE : kE a bs.length = 0 := by unfold kE; rw [if_neg (by omega), if_neg (by omega)]
  unfold yM
  by_cases hc : kE a bs.length ≠ 0 ∨ bs.length = 0
  · rw [if_pos hc]
    have : bs.length = 0 := hc.resolve_left (fun e => e hE)
    exact ⟨hE, Int.le_refl _, fun z _ => by rw [if_neg (by omega)]⟩
  · rw [if_neg hc]
    refine ⟨rfl, by dsimp only; omega, fun z hz => ?_⟩
    exact YT _ a (a + bs.length) bs W.all z h.1 (by omega) (by omega) hb hz
end
theorem ZS (a : WL) : (Zw a).length = 4 := rfl
structure Ja (R : Res) (q : Option Addr) (c : Nat) (acts : List WL) : Prop where
  ok : ∀ a ∈ acts, J1 R a
  reads : ∀ w0, Reads w0 R (.slice q acts.length c) acts.length 4 (acts.flatMap Zw)
theorem act_at (w0 : World) {R : Res} {q : Option Addr} {c : Nat} {acts : List WL} (h : Ja R q c acts) {i : Nat} {a : WL} (ha : acts[i]? = some a) :
    ∃ b off cs e fr, q = some ⟨b, off, none⟩ ∧ (b, Obj.cells cs e fr) ∈ R.flatten ∧ (cs.toList.drop (off + i * 4)).take 4 = Zw a ∧ off + i * 4 + 4 ≤ cs.size := by
  have hlt := (List.getElem?_eq_some_iff.1 ha).1
  obtain ⟨p, c', h1, h2, h3⟩ := (h.reads w0).h
  cases h1
  rcases h3 with h3 | ⟨b, off, cs, e, fr, rfl, h4, h5⟩
  · omega
  · refine ⟨b, off, cs, e, fr, rfl, h4, ?_, ?_⟩
    · have := QD ZS acts [] ha
      rw [List.append_nil, ← h5, List.drop_take, List.take_take, Nat.min_eq_left (by omega), List.drop_drop] at this
      exact this
    · have h6 := congrArg List.length h5
      rw [List.length_take, List.length_drop, yy ZS] at h6
      have : cs.toList.length = cs.size := Array.length_toList
      omega
theorem elsewhere_ok (H : j3 w0) (HP : xc) (G I : qM) (hg : kJ G) (qa : Option Addr) (ca : Nat) (acts : List WL) (hacts : Ja [G, I] qa ca acts) (a : WL) (ha : J1 [G, I] a) (size : Int) (hlen : (acts.length : Int) ≤ 9223372036854775807)
    (hsz : -9223372036854775808 ≤ size ∧ size ≤ 9223372036854775807) :
    FnT Tryz.prog w0 3 #[.slice qa acts.length ca, .agg (Zw a).toArray, .int .i64 size] (G :: I :: F) (fun r L' => r = .bool true ∧ L' = G :: I :: F) := by
  rw [show Zw a = [.int .i64 a.kind, .int .i64 a.at_, .int .i64 a.n, .slice a.q a.bs.length a.c] from rfl]
  have hat := ha.at_
  obtain ⟨dn, hdn⟩ : ∃ b : Bool, b = false := ⟨false, rfl⟩
  refine FnT.enter (E0 := [(0, _), (1, _), (2, _)]) (N := 219) Tryz.func3 rfl rfl rfl rfl ?_
  refine Tr.seq <| Tr.region <| qF (wT rfl) ?_
  rintro t4 _ ⟨b4, rfl, rfl⟩
  refine q9 (qC rfl) <| qB <| QAt.seq <| Tr.seq <| Tr.seq <| Tr.region <| q9 (qw rfl (zM (G) (awake_ok H HP G hg))) <| q9 (kM rfl) <| qB <| QAt.seq <| wD rfl <| Tr.skip <| QAt.seq <| Tr.seq <| Tr.region <| qF (qn rfl (wM (G) (X4 G hg))) ?_
  rintro t25 _ ⟨x, p, md, ba, bl, v, C, Cn, od, rfl, hn, hw, hD, rfl⟩
  refine q9 (qA rfl) <| q9 (qR rfl rfl) <| q9 (qR rfl rfl) <| q9 (qC rfl) <| q9 (qC rfl) <| qB <| QAt.seq <| Tr.seq <| Tr.seq <| Tr.region <| q9 (qA rfl) <| q9 (kM rfl) <| qB <| QAt.seq <| wD rfl <| Tr.skip <| QAt.seq <| Tr.seq <| Tr.seq <| Tr.region <| q9 (qC rfl) <| qB <| QAt.seq <| Tr.block <| wB (Γ := {pΓ : (Nat) × (Nat) × (Nat) × (Nat) × (Nat) × (List Value) × (Int) × (Obj) × (NS) × (RS) × (Int → Option Sec) × (qM) × (qM) // (fun (i : Nat) (p : Nat) (md : Nat) (ba : Nat) (bl : Nat) (v : List Value) (nx : Int) (od : Obj) (n : NS) (W : RS) (D : Int → Option Sec) (Cn : qM) (C : qM) => i ≤ acts.length ∧ i ≤ 12 ∧ StP nx n W D i ∧ NodeC p n Cn ∧ RefC ba bl W v C ∧ MapF (Value.int .i64) kf D od) pΓ.1 pΓ.2.1 pΓ.2.2.1 pΓ.2.2.2.1 pΓ.2.2.2.2.1 pΓ.2.2.2.2.2.1 pΓ.2.2.2.2.2.2.1 pΓ.2.2.2.2.2.2.2.1 pΓ.2.2.2.2.2.2.2.2.1 pΓ.2.2.2.2.2.2.2.2.2.1 pΓ.2.2.2.2.2.2.2.2.2.2.1 pΓ.2.2.2.2.2.2.2.2.2.2.2.1 pΓ.2.2.2.2.2.2.2.2.2.2.2.2}) (fun g => (fun (i : Nat) (p : Nat) (md : Nat) (ba : Nat) (bl : Nat) (v : List Value) (nx : Int) (od : Obj) (n : NS) (W : RS) (D : Int → Option Sec) (Cn : qM) (C : qM) => [(0, .slice qa acts.length ca), (2, .int .i64 size), (4, .pointer (some ⟨b4, 0, none⟩)), (7, .pointer (some ⟨x, 0, none⟩)), (9, .int .i64 i)]) g.1.1 g.1.2.1 g.1.2.2.1 g.1.2.2.2.1 g.1.2.2.2.2.1 g.1.2.2.2.2.2.1 g.1.2.2.2.2.2.2.1 g.1.2.2.2.2.2.2.2.1 g.1.2.2.2.2.2.2.2.2.1 g.1.2.2.2.2.2.2.2.2.2.1 g.1.2.2.2.2.2.2.2.2.2.2.1 g.1.2.2.2.2.2.2.2.2.2.2.2.1 g.1.2.2.2.2.2.2.2.2.2.2.2.2) (fun g => (fun (i : Nat) (p : Nat) (md : Nat) (ba : Nat) (bl : Nat) (v : List Value) (nx : Int) (od : Obj) (n : NS) (W : RS) (D : Int → Option Sec) (Cn : qM) (C : qM) => StD x p v md nx false od :: Cn :: C :: [(b4, .cells [.int .i64 a.kind, .int .i64 a.at_, .int .i64 a.n, .slice a.q a.bs.length a.c].toArray 25 (0, 0))] :: G :: I :: F) g.1.1 g.1.2.1 g.1.2.2.1 g.1.2.2.2.1 g.1.2.2.2.2.1 g.1.2.2.2.2.2.1 g.1.2.2.2.2.2.2.1 g.1.2.2.2.2.2.2.2.1 g.1.2.2.2.2.2.2.2.2.1 g.1.2.2.2.2.2.2.2.2.2.1 g.1.2.2.2.2.2.2.2.2.2.2.1 g.1.2.2.2.2.2.2.2.2.2.2.2.1 g.1.2.2.2.2.2.2.2.2.2.2.2.2) (fun g => (fun (i : Nat) (p : Nat) (md : Nat) (ba : Nat) (bl : Nat) (v : List Value) (nx : Int) (od : Obj) (n : NS) (W : RS) (D : Int → Option Sec) (Cn : qM) (C : qM) => acts.length - i) g.1.1 g.1.2.1 g.1.2.2.1 g.1.2.2.2.1 g.1.2.2.2.2.1 g.1.2.2.2.2.2.1 g.1.2.2.2.2.2.2.1 g.1.2.2.2.2.2.2.2.1 g.1.2.2.2.2.2.2.2.2.1 g.1.2.2.2.2.2.2.2.2.2.1 g.1.2.2.2.2.2.2.2.2.2.2.1 g.1.2.2.2.2.2.2.2.2.2.2.2.1 g.1.2.2.2.2.2.2.2.2.2.2.2.2) ⟨(0, p, md, ba, bl, v, 100, od, Z7 3 7 1, W5 3 7 1, (fun _ => none), Cn, C), by dsimp only; exact ⟨by omega, by omega, ⟨Yy.1, Yy.2, by omega⟩, hn, hw, hD⟩⟩ (qP _) ?_
  rintro ⟨⟨i, p, md, ba, bl, v, nx, od, n, W, D, Cn, C⟩, hloop⟩
  replace hloop : i ≤ acts.length ∧ i ≤ 12 ∧ StP nx n W D i ∧ NodeC p n Cn ∧ RefC ba bl W v C ∧ MapF (Value.int .i64) kf D od := hloop
  obtain ⟨hi, hi12, hP, hn, hw, hD⟩ := hloop
  show Tr _ _ _ ([(0, .slice qa acts.length ca), (2, .int .i64 size), (4, .pointer (some ⟨b4, 0, none⟩)), (7, .pointer (some ⟨x, 0, none⟩)), (9, .int .i64 i)]) (StD x p v md nx false od :: Cn :: C :: [(b4, .cells [.int .i64 a.kind, .int .i64 a.at_, .int .i64 a.n, .slice a.q a.bs.length a.c].toArray 25 (0, 0))] :: G :: I :: F) _ _
  refine Tr.seq <| zA (Γ := {pΓ : (Bool) // (fun (b : Bool) => b = true ↔ (i < acts.length ∧ i < 12)) pΓ}) (fun g => (fun (b : Bool) => [(0, .slice qa acts.length ca), (2, .int .i64 size), (4, .pointer (some ⟨b4, 0, none⟩)), (7, .pointer (some ⟨x, 0, none⟩)), (9, .int .i64 i), (37, .bool b)]) g.1) (fun g => (fun (b : Bool) => StD x p v md nx false od :: Cn :: C :: [(b4, .cells [.int .i64 a.kind, .int .i64 a.at_, .int .i64 a.n, .slice a.q a.bs.length a.c].toArray 25 (0, 0))] :: G :: I :: F) g.1) ?_ ?_
  ·
   refine Tr.region <| q9 (qA rfl) <| q9 (qA rfl) <| q9 (qg rfl) <| q9 (qv rfl rfl) <| q9 (qA rfl) <| qN (s := 34) rfl (fun hg7_4 => ?_) (fun hg7_4 => ?_)
   ·
    refine qE rfl rfl (qA rfl) <| qE rfl rfl (qv rfl rfl) <| q9 (qT rfl rfl) <| qB <| qO ⟨_, ?_⟩ ?_
    · (try dsimp only); first | exact ⟨fun h => ⟨by omega, by have := of_decide_eq_true h; omega⟩, fun h => decide_eq_true (by omega)⟩ | exact ⟨fun h => (by cases h), fun h => (by omega)⟩
    · (try dsimp only); exact qP _
   ·
    refine qH rfl rfl rfl <| qH rfl rfl rfl <| q9 (qL rfl rfl) <| qB <| qO ⟨_, ?_⟩ ?_
    · (try dsimp only); first | exact ⟨fun h => ⟨by omega, by have := of_decide_eq_true h; omega⟩, fun h => decide_eq_true (by omega)⟩ | exact ⟨fun h => (by cases h), fun h => (by omega)⟩
    · (try dsimp only); exact qP _
  rintro ⟨b, hcut⟩
  replace hcut : b = true ↔ (i < acts.length ∧ i < 12) := hcut
  have hb := hcut
  show Tr _ _ _ ([(0, .slice qa acts.length ca), (2, .int .i64 size), (4, .pointer (some ⟨b4, 0, none⟩)), (7, .pointer (some ⟨x, 0, none⟩)), (9, .int .i64 i), (37, .bool b)]) (StD x p v md nx false od :: Cn :: C :: [(b4, .cells [.int .i64 a.kind, .int .i64 a.at_, .int .i64 a.n, .slice a.q a.bs.length a.c].toArray 25 (0, 0))] :: G :: I :: F) _ _
  refine Tr.cond rfl (fun hc6 => ?_) (fun hc6 => ?_)
  ·
   refine Tr.skip <| QAt.seq <| Tr.seq <| Tr.block <| Tr.seq ?_
   have hbb := hb.1 hc6
   obtain ⟨ac, hac⟩ : ∃ ac, acts[i]? = some ac := ⟨_, List.getElem?_eq_getElem (by omega)⟩
   have hao := hacts.ok ac (List.mem_of_getElem? hac)
   obtain ⟨bq, oq, cq, eq, fq, hqa, hmem, hcell, hsize⟩ := act_at w0 hacts hac
   refine Tr.region <| q9 (qA rfl) <| q9 (qA rfl) <| q9 (qA rfl) <| q9 (qf (j := i) (off := oq + i * 4) (by rw [hqa]; rfl) rfl rfl (by omega) rfl) ?_
   refine q9 (yZ rfl ((in2 (fun z hz => by simp [hz]) (fun z hz => by simp [hz])) _ hmem) hcell hsize) ?_
   refine qF (qn rfl (FnT.fr5 (StD x p v md nx false od) (Cn) (C) (G) (I) (ldo_ok H HP x p md v nx false rfl od n W D Cn C G I i ac hn hw hD hg hP (by omega) hao))) ?_
   rintro t45 _ ⟨rfl, p', md', v', nx', od', n', W', D', Cn', C', ba', bl', hP', hn', hw', hD', rfl⟩
   refine q9 (kM rfl) <| qB <| QAt.seq <| wD rfl <| Tr.skip <| QAt.block <| QAt.seq <| Tr.region <| q9 (qA rfl) <| q9 (qj rfl rfl (by omega)) <| q9 (qC rfl) <| qB <| qh ⟨(i + 1, p', md', ba', bl', v', nx', od', n', W', D', Cn', C'), ?_⟩ ?_ ?_
   · (try dsimp only); exact ⟨by omega, by omega, hP', hn', hw', hD'⟩
   · (try dsimp only); omega
   · (try dsimp only); exact qP _
  ·
   refine Tr.exit <| qX <| qY <| qS <| QAt.seq <| Tr.seq ?_
   have hI := hP.inv
   have hs0 := hI.size
   have hsn : n.size = W.size := hP.cpl.size
   have hrd : YJ (.func (.func 11) #[.pointer (some ⟨x, 0, none⟩)] #[]) (StD x p v md nx false od) D := by
     have := xv x p md v nx false od D hw.len hD
     rw [K1] at this; exact this
   refine Tr.drawn qm <| qr [(48, .pure _), (49, .pure _), (50, .pure _), (51, .pure _), (52, .pure _), (53, .pure _), (54, .pure _), (55, .pure _), (56, .pure _), (57, .pure _), (58, .pure _)] (by kernel_rfl) rfl rfl rfl wL (ParH.pure rfl (fun X => qA rfl) <| ParH.pure rfl (fun X => qJ rfl) <| ParH.pure rfl (fun X => qD rfl) <| ParH.pure rfl (fun X => qG rfl j4) <| ParH.pure rfl (fun X => qA rfl) <| ParH.pure rfl (fun X => qJ rfl) <| ParH.pure rfl (fun X => qD rfl) <| ParH.pure rfl (fun X => qG rfl j4) <| ParH.pure rfl (fun X => qw rfl (zM (Cn) (J8 p n Cn hn))) <| ParH.pure rfl (fun X => qA rfl) <| ParH.pure rfl (fun X => wV rfl rfl) <| ParH.nil rfl) ?_
   dsimp only [zG, List.drop, List.length]
   refine wa (by kernel_rfl) (qn rfl (k5 (Cn) (StD x p v md nx false od) (Z8 p n W Cn (StD x p v md nx false od) hn 0 n.size _ D hrd hP.cpl hI (by omega) (by omega)))) ?_
   rintro t59 _ ⟨u1, R1, rfl, hr1, rfl⟩
   refine qq (by kernel_rfl) (qA rfl) ?_
   refine qr [(60, .pure _), (61, .pure _), (10, .pure _)] (by kernel_rfl) rfl rfl rfl wL (ParH.pure rfl (fun X => qR rfl rfl) <| ParH.pure rfl (fun X => qR rfl rfl) <| ParH.pure rfl (fun X => qC rfl) <| ParH.nil rfl) ?_
   dsimp only [zG, List.drop, List.length]
   refine qq (by kernel_rfl) (qC rfl) ?_
   refine qt <| QAt.seq <| Tr.seq <| Tr.region <| q9 (qD rfl) <| q9 (qG rfl rfl) <| q9 (qC rfl) <| qB <| QAt.seq <| zA (Γ := {pΓ : (Option Addr) × (Nat) × (List Int) // (fun (q : Option Addr) (c : Nat) (bs : List Int) => IsB bs ∧ bs.length ≤ 300 ∧ bs.length ≤ c ∧ (q = none → bs.length = 0) ∧ (∀ w0, Reads w0 [G, I] (.slice q bs.length c) bs.length 1 (u8s bs))) pΓ.1 pΓ.2.1 pΓ.2.2}) (fun g => (fun (q : Option Addr) (c : Nat) (bs : List Int) => [(2, .int .i64 size), (4, .pointer (some ⟨b4, 0, none⟩)), (7, .pointer (some ⟨x, 0, none⟩)), (10, u1), (11, .int .i64 (Q6 0 n.size)), (12, .slice q bs.length c)]) g.1.1 g.1.2.1 g.1.2.2) (fun g => (fun (q : Option Addr) (c : Nat) (bs : List Int) => R1 :: StD x p v md nx false od :: Cn :: C :: [(b4, .cells [.int .i64 a.kind, .int .i64 a.at_, .int .i64 a.n, .slice a.q a.bs.length a.c].toArray 25 (0, 0))] :: G :: I :: F) g.1.1 g.1.2.1 g.1.2.2) ?_ ?_
   ·
    refine Tr.seq <| Tr.region <| q9 (qA rfl) <| q9 (qg rfl) <| q9 (zd rfl rfl) <| qB <| QAt.seq <| qI rfl (fun hc13 => ?_) (fun hc13 => ?_)
    ·
     refine Tr.region <| q9 (qA rfl) <| q9 (kk (kl := .i64) (kh := .i64) (l := 0) (h := 300) rfl rfl rfl (by omega) (by have := ha.len; omega) ha.len) ?_
     refine q9 (qC rfl) <| qB ?_
     rw [show (300 - 0 : Nat) = (a.bs.take 300).length from by rw [List.length_take]; omega]
     refine qO ⟨(if a.c = 0 then a.q else a.q.map (·.add (0 * 1)), a.c - 0, a.bs.take 300), ?_⟩ ?_
     ·
      try dsimp only
      refine ⟨Yu ha.bs 300, by rw [List.length_take]; omega, by have := ha.len; rw [List.length_take]; omega, fun e => ?_, fun w0 => ?_⟩
      · exfalso; have hqq := ha.q; split at e
        · have := hqq e; omega
        · cases hq : a.q with
          | none => have := hqq hq; omega
          | some z => rw [hq] at e; cases e
      · have h7 : (a.bs.take 300).length = 300 := by rw [List.length_take]; omega
        rw [h7, ← jR]; exact (ha.reads w0).cutTo (t := 300) (by omega) (by omega)
     · (try dsimp only); exact qP _
    ·
     refine Tr.skip <| qO ⟨(a.q, a.c, a.bs), ?_⟩ ?_
     · (try dsimp only); exact ⟨ha.bs, by omega, ha.len, ha.q, ha.reads⟩
     · (try dsimp only); exact qP _
   rintro ⟨⟨q, c, bs⟩, hcut⟩
   replace hcut : IsB bs ∧ bs.length ≤ 300 ∧ bs.length ≤ c ∧ (q = none → bs.length = 0) ∧ (∀ w0, Reads w0 [G, I] (.slice q bs.length c) bs.length 1 (u8s bs)) := hcut
   obtain ⟨hbs, hb3, hbc, hbq, hbr⟩ := hcut
   show Tr _ _ _ ([(2, .int .i64 size), (4, .pointer (some ⟨b4, 0, none⟩)), (7, .pointer (some ⟨x, 0, none⟩)), (10, u1), (11, .int .i64 (Q6 0 n.size)), (12, .slice q bs.length c)]) (R1 :: StD x p v md nx false od :: Cn :: C :: [(b4, .cells [.int .i64 a.kind, .int .i64 a.at_, .int .i64 a.n, .slice a.q a.bs.length a.c].toArray 25 (0, 0))] :: G :: I :: F) _ _
   refine Tr.seq <| Tr.region <| q9 (qD rfl) <| q9 (qG rfl rfl) <| q9 (Wq rfl rfl) <| q9 (JI rfl rfl) <| q9 (qC rfl) <| qB <| QAt.seq <| Tr.seq <| Tr.seq ?_
   obtain ⟨z, hz⟩ : ∃ z, max 0 (min a.at_ 130000) = z := ⟨_, rfl⟩
   have hz2 : 0 ≤ z ∧ z ≤ 130000 := by omega
   rw [hz]
   have hre : Q6 0 n.size = 0 := by unfold Q6; rw [if_neg (by omega)]
   have hwc := ZZ hP.cpl hI z bs hbs
   have hwr := write_res W (a := z) (bs := bs) ⟨by omega, by omega⟩ hbs
   refine Tr.region <| q9 (qA rfl) <| q9 (wZ rfl rfl) <| q9 (qA rfl) <| qN (s := 75) rfl (fun hg16_2 => ?_) (fun hg16_2 => ?_)
   · exact absurd hre hg16_2
   ·
    refine qE rfl rfl (qA rfl) <| qE rfl rfl (qJ rfl) <| qE rfl rfl (qD rfl) <| qE rfl rfl (qG rfl j4) <| qE rfl rfl (qA rfl) <| qE rfl rfl (qA rfl) <| qE rfl rfl (qA rfl) <| qE rfl rfl (wV rfl rfl) <| WJ rfl rfl (qn rfl (k5 (Cn) (StD x p v md nx false od) (xu p n Cn (StD x p v md nx false od) hn z q c bs _ D hrd (by omega) (by omega) hbs (by omega) hbc hbq (fun A => (hbr w0).mono (in2 (fun z hz => by simp [hz]) (fun z hz => by simp [hz])))))) ?_
    rintro t84 _ ⟨Cn', rfl, hn', rfl⟩
    refine qE rfl rfl (wZ rfl rfl) <| q9 (qL rfl rfl) <| qB <| QAt.seq <| qI rfl (fun hc16 => ?_) (fun hc16 => ?_)
    · exact absurd (hwc.1.trans hwr.1) hc16
    ·
     refine Tr.skip <| QAt.seq <| Tr.seq ?_
     obtain ⟨n1, hn1⟩ : ∃ n1, (jC n D z bs).2 = n1 := ⟨_, rfl⟩
     obtain ⟨W1, hW1⟩ : ∃ W1, (yM W z bs).2 = W1 := ⟨_, rfl⟩
     rw [hn1] at hn'
     rw [hn1, hW1] at hwc
     rw [hW1] at hwr
     obtain ⟨-, hC1, hI1⟩ := hwc
     have hs1 := hI1.size
     have hsn1 : n1.size = W1.size := hC1.size
     have hre1 : Q6 0 n1.size = 0 := by unfold Q6; rw [if_neg (by omega)]
     have hl1 := QU (W := W) (m := n.size) (by omega) (by omega)
     have hl2 := QU (W := W1) (m := n1.size) (by omega) (by omega)
     have hwsz := hwr.2.1
     refine Tr.drawn qm <| qr [(88, .pure _), (89, .pure _), (90, .pure _), (91, .pure _), (92, .pure _), (93, .pure _), (94, .pure _), (95, .pure _), (96, .pure _), (97, .pure _), (98, .pure _)] (by kernel_rfl) rfl rfl rfl wL (ParH.pure rfl (fun X => qA rfl) <| ParH.pure rfl (fun X => qJ rfl) <| ParH.pure rfl (fun X => qD rfl) <| ParH.pure rfl (fun X => qG rfl j4) <| ParH.pure rfl (fun X => qA rfl) <| ParH.pure rfl (fun X => qJ rfl) <| ParH.pure rfl (fun X => qD rfl) <| ParH.pure rfl (fun X => qG rfl j4) <| ParH.pure rfl (fun X => qw rfl (zM (Cn') (J8 p n1 Cn' hn'))) <| ParH.pure rfl (fun X => qA rfl) <| ParH.pure rfl (fun X => wV rfl rfl) <| ParH.nil rfl) ?_
     dsimp only [zG, List.drop, List.length]
     refine wa (by kernel_rfl) (qn rfl (k5 (Cn') (StD x p v md nx false od) (Z8 p n1 W1 Cn' (StD x p v md nx false od) hn' 0 n1.size _ D hrd hC1 hI1 (by omega) (by omega)))) ?_
     rintro t99 _ ⟨u2, R2, rfl, hr2, rfl⟩
     refine qq (by kernel_rfl) (qA rfl) ?_
     refine qr [(100, .pure _), (101, .pure _), (14, .pure _)] (by kernel_rfl) rfl rfl rfl wL (ParH.pure rfl (fun X => qR rfl rfl) <| ParH.pure rfl (fun X => qR rfl rfl) <| ParH.pure rfl (fun X => qC rfl) <| ParH.nil rfl) ?_
     dsimp only [zG, List.drop, List.length]
     refine qq (by kernel_rfl) (qC rfl) ?_
     refine qt <| QAt.seq <| Tr.seq <| Tr.seq ?_
     obtain ⟨q1, k1, hu1⟩ := hr1.slice
     obtain ⟨q2, k2, hu2⟩ := hr2.slice
     refine Tr.region <| q9 (qA rfl) <| q9 (wZ rfl rfl) <| q9 (qA rfl) <| qN (s := 104) rfl (fun hg19_2 => ?_) (fun hg19_2 => ?_)
     · exact absurd hre1 hg19_2
     ·
      refine qE rfl rfl (qA rfl) <| qE rfl rfl (qg (by rw [hu2]; rfl)) ?_
      refine qE rfl rfl (qA rfl) <| qE rfl rfl (qg (by rw [hu1]; rfl)) ?_
      refine qE rfl rfl (qv rfl rfl) <| q9 (qL rfl rfl) <| qB <| QAt.seq <| qI rfl (fun hc19 => ?_) (fun hc19 => ?_)
      · (exfalso; omega)
      ·
       refine Tr.skip <| QAt.seq <| Tr.seq <| Tr.seq <| Tr.region <| q9 (qA rfl) <| q9 (qg (by rw [hu2]; rfl)) ?_
       refine q9 (qA rfl) <| qB <| QAt.seq <| Tr.block <| wB (Γ := {pΓ : (Nat) // (fun (i : Nat) => i ≤ (zr W1 0 n1.size).length) pΓ}) (fun g => (fun (i : Nat) => [(2, .int .i64 size), (7, .pointer (some ⟨x, 0, none⟩)), (10, u1), (12, .slice q bs.length c), (13, .int .i64 z), (14, u2), (111, u2), (112, .int .i64 (zr W1 0 n1.size).length), (113, .int .i64 i)]) g.1) (fun g => (fun (i : Nat) => R2 :: R1 :: StD x p v md nx false od :: Cn' :: C :: G :: I :: F) g.1) (fun g => (fun (i : Nat) => (zr W1 0 n1.size).length - i) g.1) ⟨0, by dsimp only; exact (by omega)⟩ (qP _) ?_
       rintro ⟨i, hloop⟩
       replace hloop : i ≤ (zr W1 0 n1.size).length := hloop
       obtain hi2 := hloop
       show Tr _ _ _ ([(2, .int .i64 size), (7, .pointer (some ⟨x, 0, none⟩)), (10, u1), (12, .slice q bs.length c), (13, .int .i64 z), (14, u2), (111, u2), (112, .int .i64 (zr W1 0 n1.size).length), (113, .int .i64 i)]) (R2 :: R1 :: StD x p v md nx false od :: Cn' :: C :: G :: I :: F) _ _
       refine Tr.seq <| Tr.region <| q9 (qv rfl rfl) <| qB <| QAt.seq <| Tr.seq <| qI rfl (fun hc22 => ?_) (fun hc22 => ?_)
       ·
        have hby := hwr.2.2 i (by omega)
        have hnow := WP (W := W1) (m := n1.size) (by omega) (by omega) (i := i) (by omega)
        refine Tr.skip <| QAt.seq <| Tr.seq <| Tr.block <| Tr.seq <| Tr.region <| q9 (qA rfl) <| qF (zO (j := i) rfl rfl hr2 (by omega) (by omega)) ?_
        rintro t116 _ ⟨bR, capR, spR, hqR, rfl, hcapR, hncR, rfl, rfl⟩
        refine q9 (qG rfl (show wG (u8s (zr W1 0 n1.size) ++ spR) (i * 1) = some (.int .u8 (zh W1.all i)) by rw [wi, Nat.mul_one, List.getElem?_append_left (by simp [u8s]; omega)]; simp [u8s, hnow])) ?_
        refine q9 (qC rfl) <| q9 (qC rfl) <| qB <| QAt.seq <| Tr.seq <| Tr.region <| q9 (qC rfl) <| qB <| QAt.seq <| zA (Γ := {pΓ : (Nat) // (fun (z0 : Nat) => True) pΓ}) (fun g => (fun (z0 : Nat) => [(2, .int .i64 size), (7, .pointer (some ⟨x, 0, none⟩)), (10, u1), (12, .slice q bs.length c), (13, .int .i64 z), (14, u2), (111, u2), (112, .int .i64 (zr W1 0 n1.size).length), (113, .int .i64 i), (15, .int .i64 i), (16, .int .u8 (zh W1.all i)), (17, .int .u8 (zh W.all i))]) g.1) (fun g => (fun (z0 : Nat) => [(bR, .cells (u8s (zr W1 0 n1.size) ++ spR).toArray 5 (0, 0))] :: R1 :: StD x p v md nx false od :: Cn' :: C :: G :: I :: F) g.1) ?_ ?_
        ·
         refine Tr.seq <| Tr.region <| q9 (qA rfl) <| q9 (qA rfl) <| q9 (qg (by rw [hu1]; rfl)) ?_
         refine q9 (qv rfl rfl) <| qB <| QAt.seq <| qI rfl (fun hc25 => ?_) (fun hc25 => ?_)
         ·
          refine Tr.region <| q9 (qA rfl) <| q9 (qA rfl) <| qF (zO (j := i) rfl rfl hr1 (by omega) (by omega)) ?_
          rintro t124 _ ⟨bS, capS, spS, hqS, rfl, hcapS, hncS, rfl, rfl⟩
          refine q9 (qG rfl (show wG (u8s (zr W 0 n.size) ++ spS) (i * 1) = some (.int .u8 (zh W.all i)) by rw [wi, Nat.mul_one, List.getElem?_append_left (by simp [u8s]; omega)]; simp [u8s, WP (W := W) (m := n.size) (by omega) (by omega) (i := i) (by omega)])) ?_
          refine q9 (qC rfl) <| qB <| qO ⟨0, ?_⟩ ?_
          · (try dsimp only); all_goals trivial
          · (try dsimp only); exact qP _
         ·
          have hzb : zh W.all (i : Int) = 0 := KO hI (by omega) (by omega) (by omega)
          rw [show (17, Value.int .u8 0) = (17, Value.int .u8 (zh W.all (i : Int))) from by rw [hzb]]
          refine Tr.skip <| qO ⟨0, ?_⟩ ?_
          · (try dsimp only); all_goals trivial
          · (try dsimp only); exact qP _
        rintro ⟨z0, hcut⟩
        replace hcut : True := hcut
        have hT := hcut
        show Tr _ _ _ ([(2, .int .i64 size), (7, .pointer (some ⟨x, 0, none⟩)), (10, u1), (12, .slice q bs.length c), (13, .int .i64 z), (14, u2), (111, u2), (112, .int .i64 (zr W1 0 n1.size).length), (113, .int .i64 i), (15, .int .i64 i), (16, .int .u8 (zh W1.all i)), (17, .int .u8 (zh W.all i))]) ([(bR, .cells (u8s (zr W1 0 n1.size) ++ spR).toArray 5 (0, 0))] :: R1 :: StD x p v md nx false od :: Cn' :: C :: G :: I :: F) _ _
        refine zA (Γ := {pΓ : (Int) // (fun (wv : Int) => wv = zh W1.all (i : Int)) pΓ}) (fun g => (fun (wv : Int) => [(2, .int .i64 size), (7, .pointer (some ⟨x, 0, none⟩)), (10, u1), (12, .slice q bs.length c), (13, .int .i64 z), (14, u2), (111, u2), (112, .int .i64 (zr W1 0 n1.size).length), (113, .int .i64 i), (15, .int .i64 i), (16, .int .u8 (zh W1.all i)), (17, .int .u8 wv)]) g.1) (fun g => (fun (wv : Int) => [(bR, .cells (u8s (zr W1 0 n1.size) ++ spR).toArray 5 (0, 0))] :: R1 :: StD x p v md nx false od :: Cn' :: C :: G :: I :: F) g.1) ?_ ?_
        ·
         refine zA (Γ := {pΓ : (Bool) // (fun (b : Bool) => b = true ↔ (z ≤ i ∧ (i : Int) < z + bs.length)) pΓ}) (fun g => (fun (b : Bool) => [(2, .int .i64 size), (7, .pointer (some ⟨x, 0, none⟩)), (10, u1), (12, .slice q bs.length c), (13, .int .i64 z), (14, u2), (111, u2), (112, .int .i64 (zr W1 0 n1.size).length), (113, .int .i64 i), (15, .int .i64 i), (16, .int .u8 (zh W1.all i)), (17, .int .u8 (zh W.all i)), (136, .bool b)]) g.1) (fun g => (fun (b : Bool) => [(bR, .cells (u8s (zr W1 0 n1.size) ++ spR).toArray 5 (0, 0))] :: R1 :: StD x p v md nx false od :: Cn' :: C :: G :: I :: F) g.1) ?_ ?_
         ·
          refine Tr.region <| q9 (qA rfl) <| q9 (qA rfl) <| q9 (yl rfl rfl) <| q9 (qA rfl) <| qN (s := 129) rfl (fun hg27_3 => ?_) (fun hg27_3 => ?_)
          ·
           refine qE rfl rfl (qA rfl) <| qE rfl rfl (qA rfl) <| qE rfl rfl (zV rfl rfl (by omega)) <| qE rfl rfl (qA rfl) <| qE rfl rfl (qg rfl) <| qE rfl rfl (qv rfl rfl) <| q9 (qT rfl rfl) <| qB <| qO ⟨_, ?_⟩ ?_
           · (try dsimp only); first | exact ⟨fun h => (by have := of_decide_eq_true h; omega), fun h => decide_eq_true (by omega)⟩ | exact ⟨fun h => (by cases h), fun h => (by omega)⟩
           · (try dsimp only); exact qP _
          ·
           refine qH rfl rfl rfl <| qH rfl rfl rfl <| qH rfl rfl rfl <| qH rfl rfl rfl <| qH rfl rfl rfl <| qH rfl rfl rfl <| q9 (qL rfl rfl) <| qB <| qO ⟨_, ?_⟩ ?_
           · (try dsimp only); first | exact ⟨fun h => (by have := of_decide_eq_true h; omega), fun h => decide_eq_true (by omega)⟩ | exact ⟨fun h => (by cases h), fun h => (by omega)⟩
           · (try dsimp only); exact qP _
         rintro ⟨b, hcut⟩
         replace hcut : b = true ↔ (z ≤ i ∧ (i : Int) < z + bs.length) := hcut
         have hb27 := hcut
         show Tr _ _ _ ([(2, .int .i64 size), (7, .pointer (some ⟨x, 0, none⟩)), (10, u1), (12, .slice q bs.length c), (13, .int .i64 z), (14, u2), (111, u2), (112, .int .i64 (zr W1 0 n1.size).length), (113, .int .i64 i), (15, .int .i64 i), (16, .int .u8 (zh W1.all i)), (17, .int .u8 (zh W.all i)), (136, .bool b)]) ([(bR, .cells (u8s (zr W1 0 n1.size) ++ spR).toArray 5 (0, 0))] :: R1 :: StD x p v md nx false od :: Cn' :: C :: G :: I :: F) _ _
         refine Tr.cond rfl (fun hc24 => ?_) (fun hc24 => ?_)
         ·
          have hin := hb27.1 hc24
          obtain ⟨d, hd⟩ : ∃ d : Nat, (i : Int) - z = d := ⟨((i : Int) - z).toNat, by omega⟩
          obtain ⟨pq, cq, heq, hlq, hrq⟩ := (hbr w0).h
          cases heq
          rcases hrq with hrq | ⟨bq, oq, csq, eq, fq, hqe, hmq, htq⟩
          · omega
          have hcq : csq[oq + d]? = some (.int .u8 (zh W1.all (i : Int))) := by
            have h1 : (u8s bs)[d]? = some (.int .u8 (zh W1.all (i : Int))) := by
              rw [hby, if_pos hin, show ((i : Int) - z).toNat = d from by omega]
              simp [u8s, List.getElem?_eq_getElem (show d < bs.length by omega)]
            rw [← htq, List.getElem?_take_of_lt (by omega), List.getElem?_drop] at h1
            rw [← Array.getElem?_toList]; exact h1
          refine Tr.region <| q9 (qA rfl) <| q9 (qA rfl) <| q9 (qA rfl) <| q9 (zV rfl rfl (by omega)) <| q9 (qf (j := d) (off := oq + d) (by rw [hqe]; rfl) rfl hd (by omega) (by simp)) ?_
          refine q9 (W4 rfl ((in2 (fun z hz => by simp [hz]) (fun z hz => by simp [hz])) _ hmq) hcq) ?_
          refine q9 (qC rfl) <| qB <| qO ⟨zh W1.all (i : Int), ?_⟩ ?_
          · (try dsimp only); all_goals rfl
          · (try dsimp only); exact qP _
         ·
          refine Tr.skip <| qO ⟨zh W.all (i : Int), ?_⟩ ?_
          · (try dsimp only); rw [hby, if_neg (fun h => by rw [hb27.2 h] at hc24; cases hc24)]
          · (try dsimp only); exact qP _
        rintro ⟨wv, hcut⟩
        replace hcut : wv = zh W1.all (i : Int) := hcut
        have hwv := hcut
        show Tr _ _ _ ([(2, .int .i64 size), (7, .pointer (some ⟨x, 0, none⟩)), (10, u1), (12, .slice q bs.length c), (13, .int .i64 z), (14, u2), (111, u2), (112, .int .i64 (zr W1 0 n1.size).length), (113, .int .i64 i), (15, .int .i64 i), (16, .int .u8 (zh W1.all i)), (17, .int .u8 wv)]) ([(bR, .cells (u8s (zr W1 0 n1.size) ++ spR).toArray 5 (0, 0))] :: R1 :: StD x p v md nx false od :: Cn' :: C :: G :: I :: F) _ _
        refine Tr.seq <| Tr.region <| q9 (qA rfl) <| q9 (qA rfl) <| q9 (wZ rfl rfl) <| qB <| QAt.seq <| qI rfl (fun hc29 => ?_) (fun hc29 => ?_)
        · exact absurd hwv.symm hc29
        ·
         refine Tr.skip <| QAt.block <| QAt.seq <| Tr.region <| q9 (qj rfl rfl (by omega)) <| q9 (qA rfl) <| qB <| qh ⟨i + 1, ?_⟩ ?_ ?_
         · (try dsimp only); omega
         · (try dsimp only); omega
         · (try dsimp only); exact qP _
       ·
        refine Tr.exit <| qX <| qY <| qS <| QAt.seq <| Tr.seq <| Tr.region <| q9 (qA rfl) <| q9 (Wq rfl rfl) <| q9 (JI rfl rfl) <| q9 (qC rfl) <| qB <| QAt.seq <| Tr.seq ?_
        obtain ⟨sz, hsz3⟩ : ∃ sz, max 0 (min size 136192) = sz := ⟨_, rfl⟩
        have hsz4 : 0 ≤ sz ∧ sz ≤ 136192 := by omega
        rw [hsz3]
        have hgn1 : n1.gone.length ≤ 60000 := by
          have h1 := Ym hI1.gnd hI1.rngG hI1.nx
          have h2 := hP.nxb
          have h3 := hC1.gone.length_eq
          omega
        have htc := Za hC1 hI1 sz
        have hts := YW (W := W1) hsz4
        have htk := fun z0 h1 h2 => YX (z := z0) hC1 hI1 hsz4 h1 h2
        obtain ⟨n2, hn2⟩ : ∃ n2, (kG n1 D sz).2 = n2 := ⟨_, rfl⟩
        obtain ⟨W2, hW2⟩ : ∃ W2, (yf W1 sz).2 = W2 := ⟨_, rfl⟩
        rw [hn2, hW2] at htc
        rw [hW2] at hts htk
        obtain ⟨ht1, hC2, hI2⟩ := htc
        refine Tr.region <| q9 (qA rfl) <| q9 (qg (by rw [hu2]; rfl)) ?_
        refine q9 (qC rfl) <| qB <| QAt.seq <| Tr.seq <| Tr.seq ?_
        obtain ⟨al, hal⟩ : ∃ al : Int, ((zr W1 0 n1.size).length : Int) = al := ⟨_, rfl⟩
        rw [hal]
        have hal2 : al = W1.size := by omega
        have hgn2 : n2.gone.length ≤ 60000 := by
          have h1 := Ym hI2.gnd hI2.rngG hI2.nx
          have h2 := hP.nxb
          have h3 := hC2.gone.length_eq
          omega
        have htc2 := Za hC2 hI2 al
        have hts2 := YW (W := W2) (size := al) (by omega)
        have htk2 := fun z0 h1 h2 => YX (z := z0) (size := al) hC2 hI2 (by omega) h1 h2
        obtain ⟨n3, hn3⟩ : ∃ n3, (kG n2 D al).2 = n3 := ⟨_, rfl⟩
        obtain ⟨W3, hW3⟩ : ∃ W3, (yf W2 al).2 = W3 := ⟨_, rfl⟩
        rw [hn3, hW3] at htc2
        rw [hW3] at hts2 htk2
        obtain ⟨ht3, hC3, hI3⟩ := htc2
        have hl3 := QU (W := W3) (m := al) (by omega) (by omega)
        have hre3 : Q6 0 al = 0 := by unfold Q6; rw [if_neg (by omega)]
        refine Tr.region <| q9 (qA rfl) <| q9 (qJ rfl) <| q9 (qD rfl) <| q9 (qG rfl j4) <| q9 (qA rfl) <| q9 (qA rfl) <| q9 (wV rfl rfl) <| qF (qn rfl (jB (Cn') (StD x p v md nx false od) (G) (Qx H p n1 Cn' (StD x p v md nx false od) G hn' hg hC1.ok sz _ D hrd (by omega) (by omega)))) ?_
        rintro t159 _ ⟨Cn2, rfl, hn2', rfl⟩
        rw [hn2] at hn2'
        refine q9 (wZ rfl rfl) <| q9 (qA rfl) <| qN (s := 161) rfl (fun hg34_9 => ?_) (fun hg34_9 => ?_)
        · exact absurd (ht1.trans hts.1) hg34_9
        ·
         refine qE rfl rfl (qA rfl) <| qE rfl rfl (qJ rfl) <| qE rfl rfl (qD rfl) <| qE rfl rfl (qG rfl j4) <| qE rfl rfl (qA rfl) <| qE rfl rfl (qA rfl) <| qE rfl rfl (wV rfl rfl) <| WJ rfl rfl (qn rfl (jB (Cn2) (StD x p v md nx false od) (G) (Qx H p n2 Cn2 (StD x p v md nx false od) G hn2' hg hC2.ok al _ D hrd (by omega) (by omega)))) ?_
         rintro t169 _ ⟨Cn3, rfl, hn3', rfl⟩
         rw [hn3] at hn3'
         refine qE rfl rfl (wZ rfl rfl) <| q9 (qL rfl rfl) <| qB <| QAt.seq <| qI rfl (fun hc34 => ?_) (fun hc34 => ?_)
         · exact absurd (ht3.trans hts2.1) hc34
         ·
          refine Tr.skip <| QAt.seq <| Tr.seq <| Tr.region <| q9 (qA rfl) <| q9 (qJ rfl) <| q9 (qD rfl) <| q9 (qG rfl j4) <| q9 (qA rfl) <| q9 (qA rfl) <| q9 (wV rfl rfl) <| qF (qn rfl (k5 (Cn3) (StD x p v md nx false od) (Z8 p n3 W3 Cn3 (StD x p v md nx false od) hn3' 0 al _ D hrd hC3 hI3 (by omega) (by omega)))) ?_
          rintro t180 _ ⟨u3, R3, rfl, hr3, rfl⟩
          refine q9 (qA rfl) <| q9 (qR rfl rfl) <| q9 (qR rfl rfl) <| q9 (qC rfl) <| q9 (qC rfl) <| qB <| QAt.seq <| Tr.seq <| Tr.seq ?_
          obtain ⟨q3, k3, hu3⟩ := hr3.slice
          refine Tr.region <| q9 (qA rfl) <| q9 (wZ rfl rfl) <| q9 (qA rfl) <| qN (s := 185) rfl (fun hg37_2 => ?_) (fun hg37_2 => ?_)
          · exact absurd hre3 hg37_2
          ·
           refine qE rfl rfl (qA rfl) <| qE rfl rfl (qg (by rw [hu3]; rfl)) ?_
           refine qE rfl rfl (qA rfl) <| qE rfl rfl (wZ rfl rfl) <| q9 (qL rfl rfl) <| qB <| QAt.seq <| qI rfl (fun hc37 => ?_) (fun hc37 => ?_)
           · (exfalso; omega)
           ·
            refine Tr.skip <| QAt.seq <| Tr.seq <| Tr.seq <| Tr.region <| q9 (qA rfl) <| q9 (qg (by rw [hu3]; rfl)) ?_
            refine q9 (qA rfl) <| qB <| QAt.seq <| Tr.block <| wB (Γ := {pΓ : (Nat) // (fun (i : Nat) => i ≤ (zr W3 0 al).length) pΓ}) (fun g => (fun (i : Nat) => [(2, .int .i64 sz), (14, u2), (191, u3), (192, .int .i64 (zr W3 0 al).length), (193, .int .i64 i)]) g.1) (fun g => (fun (i : Nat) => R3 :: R2 :: G :: I :: F) g.1) (fun g => (fun (i : Nat) => (zr W3 0 al).length - i) g.1) ⟨0, by dsimp only; exact (by omega)⟩ (qP _) ?_
            rintro ⟨i, hloop⟩
            replace hloop : i ≤ (zr W3 0 al).length := hloop
            obtain hi4 := hloop
            show Tr _ _ _ ([(2, .int .i64 sz), (14, u2), (191, u3), (192, .int .i64 (zr W3 0 al).length), (193, .int .i64 i)]) (R3 :: R2 :: G :: I :: F) _ _
            refine Tr.seq <| Tr.region <| q9 (qv rfl rfl) <| qB <| QAt.seq <| Tr.seq <| qI rfl (fun hc40 => ?_) (fun hc40 => ?_)
            ·
             have hbk := WP (W := W3) (m := al) (by omega) (by omega) (i := i) (by omega)
             have hnw := WP (W := W1) (m := n1.size) (by omega) (by omega) (i := i) (by omega)
             have hk2 := htk2 i (by omega) (by omega)
             have hk13 : (i : Int) < sz → zh W3.all i = zh W1.all i := fun h => hk2.trans (htk i (by omega) h)
             have hk0 : sz ≤ (i : Int) → zh W3.all i = 0 := fun h => hk2.trans (KO hI2 (by omega) (by omega) (by omega))
             refine Tr.skip <| QAt.seq <| Tr.seq <| Tr.block <| Tr.seq <| Tr.region <| q9 (qA rfl) <| qF (zO (j := i) rfl rfl hr3 (by omega) (by omega)) ?_
             rintro t196 _ ⟨bT, capT, spT, hqT, rfl, hcapT, hncT, rfl, rfl⟩
             refine q9 (qG rfl (show wG (u8s (zr W3 0 al) ++ spT) (i * 1) = some (.int .u8 (zh W3.all i)) by rw [wi, Nat.mul_one, List.getElem?_append_left (by simp [u8s]; omega)]; simp [u8s, hbk])) ?_
             refine q9 (qC rfl) <| q9 (qC rfl) <| qB <| QAt.seq <| zA (Γ := {pΓ : (Bool) // (fun (b : Bool) => b = false) pΓ}) (fun g => (fun (b : Bool) => [(2, .int .i64 sz), (14, u2), (191, u3), (192, .int .i64 (zr W3 0 al).length), (193, .int .i64 i), (217, .bool b)]) g.1) (fun g => (fun (b : Bool) => [(bT, .cells (u8s (zr W3 0 al) ++ spT).toArray 5 (0, 0))] :: R2 :: G :: I :: F) g.1) ?_ ?_
             ·
              refine Tr.region <| q9 (qA rfl) <| q9 (qA rfl) <| q9 (qv rfl rfl) <| q9 (qA rfl) <| qN (s := 201) rfl (fun hg42_3 => ?_) (fun hg42_3 => ?_)
              ·
               rcases hr2 with ⟨-, h0, -⟩ | ⟨bN, capN, spN, rfl, hcsN, rfl, hcapN, hncN⟩
               · omega
               refine qE rfl rfl (qA rfl) <| qE rfl rfl (qA rfl) <| qE rfl rfl (qA rfl) <| qE rfl rfl (qf (j := i) (off := i * 1) rfl rfl rfl (by omega) (by simp)) ?_
               refine qE rfl rfl (qG rfl (show wG (u8s (zr W1 0 n1.size) ++ spN) (i * 1) = some (.int .u8 (zh W1.all i)) by rw [wi, Nat.mul_one, List.getElem?_append_left (by simp [u8s]; omega)]; simp [u8s, hnw])) ?_
               refine qE rfl rfl (wZ rfl rfl) <| q9 (qT rfl rfl) <| q9 (qA rfl) <| qN (s := 209) rfl (fun hg42_11 => ?_) (fun hg42_11 => ?_)
               · exact absurd (hk13 (by omega)) hg42_11
               ·
                refine qE rfl rfl (qA rfl) <| qE rfl rfl (qA rfl) <| qE rfl rfl (yl rfl rfl) <| qE rfl rfl (qA rfl) <| qN (s := 213) rfl (fun hg42_15 => ?_) (fun hg42_15 => ?_)
                ·
                 refine qE rfl rfl (qA rfl) <| qE rfl rfl (wZ rfl rfl) <| qE rfl rfl (qT rfl rfl) <| q9 (qL rfl rfl) <| qB <| qO ⟨_, ?_⟩ ?_
                 · (try dsimp only); all_goals first | rfl | exact decide_eq_false (fun h => h (hk0 (by omega)))
                 · (try dsimp only); exact qP _
                ·
                 refine qH rfl rfl rfl <| qH rfl rfl rfl <| qE rfl rfl (qL rfl rfl) <| q9 (qL rfl rfl) <| qB <| qO ⟨_, ?_⟩ ?_
                 · (try dsimp only); all_goals first | rfl | exact decide_eq_false (fun h => h (hk0 (by omega)))
                 · (try dsimp only); exact qP _
              ·
               refine qH rfl rfl rfl <| qH rfl rfl rfl <| qH rfl rfl rfl <| qH rfl rfl rfl <| qH rfl rfl rfl <| qH rfl rfl rfl <| q9 (qL rfl rfl) <| q9 (qA rfl) <| qE rfl rfl (qA rfl) <| qE rfl rfl (qA rfl) <| qE rfl rfl (yl rfl rfl) <| qE rfl rfl (qA rfl) <| qN (s := 213) rfl (fun hg42_15 => ?_) (fun hg42_15 => ?_)
               ·
                refine qE rfl rfl (qA rfl) <| qE rfl rfl (wZ rfl rfl) <| qE rfl rfl (qT rfl rfl) <| q9 (qL rfl rfl) <| qB <| qO ⟨_, ?_⟩ ?_
                · (try dsimp only); all_goals first | rfl | exact decide_eq_false (fun h => h (hk0 (by omega)))
                · (try dsimp only); exact qP _
               ·
                refine qH rfl rfl rfl <| qH rfl rfl rfl <| qE rfl rfl (qL rfl rfl) <| q9 (qL rfl rfl) <| qB <| qO ⟨_, ?_⟩ ?_
                · (try dsimp only); all_goals first | rfl | exact decide_eq_false (fun h => h (hk0 (by omega)))
                · (try dsimp only); exact qP _
             rintro ⟨b, hcut⟩
             replace hcut : b = false := hcut
             have hb42 := hcut
             show Tr _ _ _ ([(2, .int .i64 sz), (14, u2), (191, u3), (192, .int .i64 (zr W3 0 al).length), (193, .int .i64 i), (217, .bool b)]) ([(bT, .cells (u8s (zr W3 0 al) ++ spT).toArray 5 (0, 0))] :: R2 :: G :: I :: F) _ _
             refine Tr.cond rfl (fun hc41 => ?_) (fun hc41 => ?_)
             ·
              refine Tr.seq <| Tr.region <| q9 (qC rfl) <| qB <| QAt.seq <| Tr.ret <| qu <| qe <| yb <| qu <| qe <| qs (G :: I :: F) (.inl rfl) rfl (qd rfl) ?_
              exfalso; rw [hb42] at hc41; cases hc41
             ·
              refine Tr.skip <| QAt.block <| QAt.seq <| Tr.region <| q9 (qj rfl rfl (by omega)) <| q9 (qA rfl) <| qB <| qh ⟨i + 1, ?_⟩ ?_ ?_
              · (try dsimp only); omega
              · (try dsimp only); omega
              · (try dsimp only); exact qP _
            ·
             refine Tr.exit <| qX <| qY <| qS <| QAt.seq <| Tr.seq <| Tr.region <| q9 (qC rfl) <| qB <| QAt.seq <| Tr.ret <| qs (G :: I :: F) (.inl rfl) rfl (qd rfl) ?_
             exact ⟨rfl, rfl⟩
end Go.Proofs.YtjikpomndbkfgaaGreatDoor
namespace Go.Sx
open Go Go.RowKit
def ZE (B : Nat) (W : World) : qM := (List.range' B (W.heap.size - B)).map fun i => (i, (W.heap[i]?).getD (.cells #[] 0 (0, 0)))
theorem heapC_mem {B i : Nat} {W : World} {o : Obj} (hi : B ≤ i) (h : W.heap[i]? = some o) : (i, o) ∈ ZE B W := by
  have hlt := (Array.getElem?_eq_some_iff.1 h).1
  refine List.mem_map.2 ⟨i, List.mem_range'_1.2 ⟨hi, by omega⟩, by rw [h]; rfl⟩
theorem heapC_at {B : Nat} {W : World} {p : XO} (h : p ∈ ZE B W) : W.heap[p.1]? = some p.2 ∧ B ≤ p.1 := by
  obtain ⟨i, hi, rfl⟩ := List.mem_map.1 h
  have := List.mem_range'_1.1 hi
  have hlt : i < W.heap.size := by omega
  exact ⟨by show W.heap[i]? = some ((W.heap[i]?).getD _); rw [Array.getElem?_eq_getElem hlt]; rfl, this.1⟩
theorem own_all {B : Nat} {W : World} {G : qM} (hG : G.map (·.1) = List.range B) (hat : ∀ p ∈ G, W.heap[p.1]? = some p.2) : Own { W with drawn := 0 } (G :: ZE B W :: []) W := by
  refine ⟨rfl, rfl, rfl, Nat.zero_le _, Nat.le_refl _, ?_, fun p hp => ?_⟩
  · have e : (ZE B W).map (·.1) = List.range' B (W.heap.size - B) := by
      unfold ZE; rw [List.map_map]; exact (List.map_congr_left fun i _ => rfl).trans (List.map_id _)
    simp only [List.flatten_cons, List.flatten_nil, List.append_nil, List.map_append, hG, e]
    rw [List.nodup_append]
    refine ⟨List.nodup_range, List.nodup_range', fun a ha b hb => ?_⟩
    have := List.mem_range.1 ha
    have := List.mem_range'_1.1 hb
    omega
  · simp only [List.flatten_cons, List.flatten_nil, List.append_nil, List.mem_append] at hp
    rcases hp with hp | hp
    · exact hat p hp
    · exact (heapC_at hp).1
theorem Xn {B : Nat} {W : World} {G : qM} (hG : G.map (·.1) = List.range B) (hat : ∀ p ∈ G, W.heap[p.1]? = some p.2) {i : Nat} {o : Obj} (h : W.heap[i]? = some o) : (i, o) ∈ ([G, ZE B W] : Res).flatten := by
  simp only [List.flatten_cons, List.flatten_nil, List.append_nil, List.mem_append]
  by_cases hi : i < B
  · have : i ∈ G.map (·.1) := by rw [hG]; exact List.mem_range.2 hi
    obtain ⟨p, hp, rfl⟩ := List.mem_map.1 this
    have := hat p hp
    rw [h] at this; cases this
    exact .inl hp
  · exact .inr (heapC_mem (by omega) h)
theorem below_all {B : Nat} {W W' : World} {G : qM} (hG : G.map (·.1) = List.range B) (hat : ∀ p ∈ G, W.heap[p.1]? = some p.2) (h : Own { W with drawn := 0 } (G :: ZE B W :: []) W') : Below W.heap.size W W' :=
  ⟨h.os, h.tape, h.output, h.size, fun k hk => by
    have h1 : W.heap[k]? = some W.heap[k] := Array.getElem?_eq_getElem hk
    rw [h1]
    exact h.at_ (k, _) (Xn hG hat h1)⟩
theorem Y2 {W w0 : World} {R : Res} (hall : ∀ i o, W.heap[i]? = some o → (i, o) ∈ R.flatten) {a : Addr} {m c sz : Nat} {ys : List Value} (hl : ys.length = m * sz) (h : ∀ j, j < ys.length → W.cell? (a.add j) = ys[j]?) : Reads w0 R (.slice (some a) m c) m sz ys := by
  refine ⟨_, _, rfl, hl, ?_⟩
  by_cases h0 : m * sz = 0
  · exact .inl h0
  refine .inr ?_
  have hc0 := h 0 (by omega)
  rw [List.getElem?_eq_getElem (by omega)] at hc0
  have hs : a.spot = none := by simpa [Addr.add] using World.cell?_spot hc0
  obtain ⟨b, off, spot⟩ := a
  dsimp only at hs
  subst hs
  have hc : ∃ cs e fr, W.heap[b]? = some (.cells cs e fr) := by
    unfold World.cell? at hc0
    split at hc0
    · rename_i c t fr hb
      exact ⟨c, t, fr, by simpa [Addr.add] using hb⟩
    · cases hc0
  obtain ⟨cs, e, fr, hb⟩ := hc
  refine ⟨b, off, cs, e, fr, rfl, hall _ _ hb, ?_⟩
  have hcell : ∀ j, j < ys.length → cs[off + j]? = ys[j]? := fun j hj => by
    rw [← h j hj, yP]
    simp [World.cell?, hb]
  apply List.ext_getElem?
  intro j
  by_cases hj : j < ys.length
  · rw [List.getElem?_take, if_pos (by omega), List.getElem?_drop, ← hcell j hj]; simp
  · rw [List.getElem?_take, if_neg (by omega), List.getElem?_eq_none (by omega)]
end Go.Sx
namespace Go.Proofs.YtjikpomndbkfgaaGreatDoor
open Go Go.Sx Go.Nd Go.RowKit Go.Deep Go.ChangeShapes Go.WideShapes
instance : Inhabited WL := ⟨⟨0, 0, 0, none, 0, []⟩⟩
section
variable {H : Type} {enc : TypeId × Value → H} {W : World} {R : Res}
theorem bytes_open (hall : ∀ i o, W.heap[i]? = some o → (i, o) ∈ R.flatten) {fuel : Nat} {cs : List Value} {x : DataW H × List MemPlace} (h : DataW.trod enc Tryz.prog W 0 (fun _ => true) true fuel 23 cs = some x) :
    ∃ (q : Option Addr) (c : Nat) (bs : List Int), cs = [.slice q bs.length c] ∧ IsB bs ∧ bs.length ≤ c ∧ (q = none → bs.length = 0) ∧ ∀ w0, Reads w0 R (.slice q bs.length c) bs.length 1 (u8s bs) := by
  rcases open_slice1 (e := 5) (by kernel_rfl) (by kernel_rfl) h with ⟨rfl, _⟩ | ⟨a, len, cap, m, n, V, D, Pl, rfl, _, hl, hm, hmm, _, hx⟩
  · exact ⟨none, 0, [], rfl, (fun _ h => by cases h), Nat.le_refl _, fun _ => rfl, fun w0 => Zy (by simp)⟩
  · simp only [if_true] at hmm
    subst hmm
    obtain ⟨z, hz⟩ := choose_lt (α := Int) (p := fun i z => V i = .int .u8 z ∧ 0 ≤ z ∧ z ≤ 255) (n := m) (fun i hi => by
      obtain ⟨_, h2⟩ := hx i hi
      obtain ⟨z, h3, _, h4⟩ := DataW.trod_int (k := .u8) (by kernel_rfl) h2
      have := bounds_u8 h4
      simp only [List.cons.injEq, and_true] at h3
      exact ⟨z, h3, this⟩)
    refine ⟨some a, m, (List.range len).map z, by simp, fun b hb => ?_, by simpa using hl, (fun h => by cases h), fun w0 => ?_⟩
    · obtain ⟨i, hi, rfl⟩ := List.mem_map.1 hb
      exact ⟨(hz i (by have := List.mem_range.1 hi; omega)).2.1, by have := (hz i (by have := List.mem_range.1 hi; omega)).2.2; omega⟩
    · have hlen : ((List.range len).map z).length = len := by simp
      rw [hlen]
      refine Y2 hall (by simp [u8s]) (fun j hj => ?_)
      have hj' : j < len := by simpa [u8s] using hj
      rw [(hx j (by omega)).1, (hz j (by omega)).1]
      simp [u8s, hj']
set_option maxRecDepth 100000 in
theorem X9 (hall : ∀ i o, W.heap[i]? = some o → (i, o) ∈ R.flatten) {fuel : Nat} {cs : List Value} {x : DataW H × List MemPlace} (h : DataW.trod enc Tryz.prog W 0 (fun _ => true) true fuel 25 cs = some x) :
    ∃ a : WL, cs = Zw a ∧ J1 R a := by
  obtain ⟨xs, n, _, _, hlen, hxl, hf⟩ := DataW.trod_struct Tryz.underlying25 h
  have hc4 : Tryz.prog.cellsOf 25 = 4 := by kernel_rfl
  rw [hc4] at hlen
  match cs, hlen with
  | [v0, v1, v2, v3], _ =>
    have g0 : DataW.trod enc Tryz.prog W 0 (fun _ => true) true n 3 (([v0, v1, v2, v3].drop 0).take (Tryz.prog.cellsOf 3)) = xs[0]? := hf 0 _ rfl
    have g1 : DataW.trod enc Tryz.prog W 0 (fun _ => true) true n 3 (([v0, v1, v2, v3].drop 1).take (Tryz.prog.cellsOf 3)) = xs[1]? := hf 1 _ rfl
    have g2 : DataW.trod enc Tryz.prog W 0 (fun _ => true) true n 3 (([v0, v1, v2, v3].drop 2).take (Tryz.prog.cellsOf 3)) = xs[2]? := hf 2 _ rfl
    have g3 : DataW.trod enc Tryz.prog W 0 (fun _ => true) true n 23 (([v0, v1, v2, v3].drop 3).take (Tryz.prog.cellsOf 23)) = xs[3]? := hf 3 _ rfl
    have c3 : Tryz.prog.cellsOf 3 = 1 := by kernel_rfl
    have cb : Tryz.prog.cellsOf 23 = 1 := by kernel_rfl
    rw [List.getElem?_eq_getElem (by rw [hxl]; decide)] at g0 g1 g2 g3
    simp only [c3, cb, List.drop, List.take] at g0 g1 g2 g3
    obtain ⟨k, e0, _, w0⟩ := DataW.trod_int (k := .i64) (by kernel_rfl) g0
    obtain ⟨p, e1, _, w1⟩ := DataW.trod_int (k := .i64) (by kernel_rfl) g1
    obtain ⟨q, e2, _, w2⟩ := DataW.trod_int (k := .i64) (by kernel_rfl) g2
    obtain ⟨qa, c, bs, e3, h1, h2, h3, h4⟩ := bytes_open hall g3
    simp only [List.cons.injEq, and_true] at e0 e1 e2 e3
    subst e0; subst e1; subst e2; subst e3
    exact ⟨⟨k, p, q, qa, c, bs⟩, rfl, bounds_i64 w1, bounds_i64 w2, h1, h2, h3, h4⟩
theorem acts_open (hall : ∀ i o, W.heap[i]? = some o → (i, o) ∈ R.flatten) {fuel : Nat} {cs : List Value} {x : DataW H × List MemPlace} (h : DataW.trod enc Tryz.prog W 0 (fun _ => true) true fuel 22 cs = some x) :
    ∃ (q : Option Addr) (c : Nat) (acts : List WL), cs = [.slice q acts.length c] ∧ Ja R q c acts ∧ (acts.length : Int) ≤ 9223372036854775807 := by
  rcases open_slice (e := 25) (by kernel_rfl) h with ⟨rfl, _⟩ | ⟨a, len, cap, m, n, D, Pl, rfl, _, hl, hm, hmm, _, hx⟩
  · exact ⟨none, 0, [], rfl, ⟨(fun _ h => by cases h), fun w0 => Zy (by simp)⟩, by simp⟩
  · simp only [if_true] at hmm
    subst hmm
    have hc4 : Tryz.prog.cellsOf 25 = 4 := by kernel_rfl
    rw [hc4] at hx
    obtain ⟨z, hz⟩ := choose_lt (α := WL) (p := fun i z => W.cells? 0 (a.add (i * 4)) 4 = some (Zw z) ∧ J1 R z) (n := m) (fun i hi => by
      obtain ⟨cs', h1, h2⟩ := hx i hi
      obtain ⟨b, rfl, hb⟩ := X9 hall h2
      exact ⟨b, h1, hb⟩)
    have hlen : ((List.range len).map z).length = len := by simp
    refine ⟨some a, m, (List.range len).map z, by simp, ⟨fun b hb => ?_, fun w0 => ?_⟩, by rw [hlen]; simp [maxLen] at hm; omega⟩
    · obtain ⟨i, hi, rfl⟩ := List.mem_map.1 hb
      exact (hz i (by have := List.mem_range.1 hi; omega)).2
    · rw [hlen]
      have hfl : (((List.range len).map z).flatMap Zw).length = len * 4 := by rw [yy ZS, hlen]
      refine Y2 hall hfl (fun j hj => ?_)
      have hj4 : j / 4 < len := by omega
      obtain ⟨_, _, hcell⟩ := World.cells?_some (hz (j / 4) (by omega)).1
      have h1 := hcell (j % 4) (Nat.mod_lt _ (by omega))
      rw [add_add, show j / 4 * 4 + j % 4 = j by omega] at h1
      rw [h1]
      have h2 := QD ZS ((List.range len).map z) [] (j := j / 4) (x := z (j / 4)) (by simp [hj4])
      rw [List.append_nil] at h2
      rw [← h2, List.getElem?_take, if_pos (Nat.mod_lt _ (by omega)), List.getElem?_drop, show j / 4 * 4 + j % 4 = j by omega]
end
theorem gSelf : Tryz.prog.globalNamed "drumlin/node.self" = some 0 := by kernel_rfl
theorem gDouble : Tryz.prog.globalNamed "drumlin/node.double" = some 1 := by kernel_rfl
theorem gSingle : Tryz.prog.globalNamed "drumlin/node.single" = some 2 := by kernel_rfl
set_option maxRecDepth 100000 in
theorem Zg {W : World} {nm : String} {g t : Nat} {cs : Array Value} {f : Nat} {p : List MemPlace} {a b : Int} {t' : Nat} (hg : Tryz.prog.globalNamed nm = some g) (ht' : (Tryz.prog.globals[g]?).map (·.type) = some t') (ht : (Tryz.prog.globals[g]?).map (·.type) = some t) (h100 : t' = 100) (hv : W.var? Tryz.prog nm = some cs)
    (hd : DataW.trod (fun _ => ()) Tryz.prog W 0 (fun _ => true) false f t cs.toList = some (.agg [.lit (.int .i64 a), .lit (.int .i64 b)], p)) :
    ∃ e fr, W.heap[g]? = some (.cells [Value.int .i64 a, Value.int .i64 b].toArray e fr) := by
  obtain rfl := Option.some.inj (ht'.symm.trans ht)
  subst h100
  obtain ⟨xs, n, _, hx, hlen, hxl, hf⟩ := DataW.trod_struct Tryz.underlying100 hd
  have hc2 : Tryz.prog.cellsOf 100 = 2 := by kernel_rfl
  have c3 : Tryz.prog.cellsOf 3 = 1 := by kernel_rfl
  rw [hc2] at hlen
  obtain ⟨l⟩ := cs
  match l, hlen, xs, hxl with
  | [v0, v1], _, [x0, x1], _ =>
    have g0 : DataW.trod (fun _ => ()) Tryz.prog W 0 (fun _ => true) false n 3 (([v0, v1].drop 0).take (Tryz.prog.cellsOf 3)) = [x0, x1][0]? := hf 0 _ rfl
    have g1 : DataW.trod (fun _ => ()) Tryz.prog W 0 (fun _ => true) false n 3 (([v0, v1].drop 1).take (Tryz.prog.cellsOf 3)) = [x0, x1][1]? := hf 1 _ rfl
    simp only [c3, List.drop, List.take] at g0 g1
    obtain ⟨k, e0, q0, _⟩ := DataW.trod_int (k := .i64) (by kernel_rfl) (show DataW.trod _ Tryz.prog W 0 _ false n 3 [v0] = some x0 from g0)
    obtain ⟨q, e1, q1, _⟩ := DataW.trod_int (k := .i64) (by kernel_rfl) (show DataW.trod _ Tryz.prog W 0 _ false n 3 [v1] = some x1 from g1)
    simp only [List.cons.injEq, and_true] at e0 e1
    subst e0; subst e1; subst q0; subst q1
    simp only [List.map_cons, List.map_nil, Prod.mk.injEq, DataW.agg.injEq, List.cons.injEq, DataW.lit.injEq, Lit.int.injEq, true_and, and_true] at hx
    obtain ⟨⟨rfl, rfl⟩, _⟩ := hx
    unfold World.var? at hv
    rw [hg] at hv
    simp only [Option.bind_some] at hv
    split at hv
    · rename_i c e fr hb
      cases hv
      exact ⟨e, fr, hb⟩
    · cases hv
def Ke : List (String × DataW Unit) := [("drumlin/node.self", Rows.laid_drumlin_node_self), ("drumlin/node.single", Rows.laid_drumlin_node_single), ("drumlin/node.double", Rows.laid_drumlin_node_double)]
theorem glob_of_laid {W : World} (h : laidMetH Tryz.prog Ke W) : ∃ G : qM, kJ G ∧ G.map (·.1) = List.range 3 ∧ ∀ p ∈ G, W.heap[p.1]? = some p.2 := by
  rw [MakeChecks.laidMetH_plain _ _ _ (by kernel_rfl)] at h
  obtain ⟨ps, ⟨g0, t0, cs0, f0, p0, q0, hg0, ht0, hv0, hd0, ⟨g1, t1, cs1, f1, p1, q1, hg1, ht1, hv1, hd1, ⟨g2, t2, cs2, f2, p2, q2, hg2, ht2, hv2, hd2, _, _⟩, _⟩, _⟩, _, _⟩ := h
  obtain rfl := Option.some.inj (gSelf.symm.trans hg0)
  obtain rfl := Option.some.inj (gSingle.symm.trans hg1)
  obtain rfl := Option.some.inj (gDouble.symm.trans hg2)
  obtain ⟨e0, r0, h0⟩ := Zg (t' := 100) gSelf (by kernel_rfl) ht0 rfl hv0 hd0
  obtain ⟨e2, r2, h2⟩ := Zg (t' := 100) gSingle (by kernel_rfl) ht1 rfl hv1 hd1
  obtain ⟨e1, r1, h1⟩ := Zg (t' := 100) gDouble (by kernel_rfl) ht2 rfl hv2 hd2
  refine ⟨_, ⟨e0, r0, e1, r1, e2, r2, rfl⟩, rfl, fun p hp => ?_⟩
  simp only [List.mem_cons, List.not_mem_nil, or_false] at hp
  rcases hp with rfl | rfl | rfl
  · exact h0
  · exact h1
  · exact h2
end Go.Proofs.YtjikpomndbkfgaaGreatDoor
namespace Go.Proofs
open Go.Shelf
def Tryz.laysSortI_ren : Go.Shelf.Ren := ⟨fun | 189 => 51 | 125 => 85 | 257 => 84 | 128 => 115 | 129 => 116 | 294 => 106 | 295 => 107 | 296 => 108 | 297 => 109 | 298 => 110 | 299 => 111 | 216 => 112 | 300 => 113 | 301 => 114 | 328 => 136 | 329 => 137 | 330 => 138 | 331 => 139 | 332 => 140 | 215 => 141 | 343 => 154 | n => n, fun | 28 => 39 | 3 => 3 | 46 => 158 | 0 => 0 | 51 => 34 | 53 => 199 | 4 => 4 | 183 => 190 | 182 => 189 | 131 => 195 | 5 => 5 | 9 => 9 | 218 => 220 | 222 => 224 | 228 => 252 | 229 => 253 | n => n, fun | n => n⟩
theorem Tryz.laysSortI : Go.Proofs.Lays.n189 Tryz.prog Tryz.laysSortI_ren where
  mixed := by kernel_rfl
  f125 := Tryz.func85.trans (congrArg some (by kernel_rfl))
  f128 := Tryz.func115.trans (congrArg some (by kernel_rfl))
  f129 := Tryz.func116.trans (congrArg some (by kernel_rfl))
  f189 := Tryz.func51.trans (congrArg some (by kernel_rfl))
  f215 := Tryz.func141.trans (congrArg some (by kernel_rfl))
  f216 := Tryz.func112.trans (congrArg some (by kernel_rfl))
  f257 := Tryz.func84.trans (congrArg some (by kernel_rfl))
  f294 := Tryz.func106.trans (congrArg some (by kernel_rfl))
  f295 := Tryz.func107.trans (congrArg some (by kernel_rfl))
  f296 := Tryz.func108.trans (congrArg some (by kernel_rfl))
  f297 := Tryz.func109.trans (congrArg some (by kernel_rfl))
  f298 := Tryz.func110.trans (congrArg some (by kernel_rfl))
  f299 := Tryz.func111.trans (congrArg some (by kernel_rfl))
  f300 := Tryz.func113.trans (congrArg some (by kernel_rfl))
  f301 := Tryz.func114.trans (congrArg some (by kernel_rfl))
  f328 := Tryz.func136.trans (congrArg some (by kernel_rfl))
  f329 := Tryz.func137.trans (congrArg some (by kernel_rfl))
  f330 := Tryz.func138.trans (congrArg some (by kernel_rfl))
  f331 := Tryz.func139.trans (congrArg some (by kernel_rfl))
  f332 := Tryz.func140.trans (congrArg some (by kernel_rfl))
  f343 := Tryz.func154.trans (congrArg some (by kernel_rfl))
  t0 := Tryz.underlying0
  a0 := Tryz.isAgg0
  z0 := Tryz.sizeOf0
  v0 := Tryz.zeroValue0
  t3 := Tryz.underlying3
  a3 := Tryz.isAgg3
  z3 := Tryz.sizeOf3
  v3 := Tryz.zeroValue3
  t4 := Tryz.underlying4
  a4 := Tryz.isAgg4
  z4 := Tryz.sizeOf4
  v4 := Tryz.zeroValue4
  t5 := Tryz.underlying5
  a5 := Tryz.isAgg5
  z5 := Tryz.sizeOf5
  v5 := Tryz.zeroValue5
  t9 := Tryz.underlying9
  a9 := Tryz.isAgg9
  z9 := Tryz.sizeOf9
  v9 := Tryz.zeroValue9
  t28 := Tryz.underlying39
  a28 := Tryz.isAgg39
  z28 := Tryz.sizeOf39
  v28 := Tryz.zeroValue39
  t46 := Tryz.underlying158
  a46 := Tryz.isAgg158
  z46 := Tryz.sizeOf158
  v46 := Tryz.zeroValue158
  t51 := Tryz.underlying34
  a51 := Tryz.isAgg34
  z51 := Tryz.sizeOf34
  v51 := Tryz.zeroValue34
  t53 := Tryz.underlying199
  a53 := Tryz.isAgg199
  z53 := Tryz.sizeOf199
  v53 := Tryz.zeroValue199
  t131 := Tryz.underlying195
  a131 := Tryz.isAgg195
  z131 := Tryz.sizeOf195
  v131 := Tryz.zeroValue195
  t182 := Tryz.underlying189
  a182 := Tryz.isAgg189
  z182 := Tryz.sizeOf189
  v182 := Tryz.zeroValue189
  t183 := Tryz.underlying190
  a183 := Tryz.isAgg190
  z183 := Tryz.sizeOf190
  v183 := Tryz.zeroValue190
  t218 := Tryz.underlying220
  a218 := Tryz.isAgg220
  z218 := Tryz.sizeOf220
  v218 := Tryz.zeroValue220
  t222 := Tryz.underlying224
  a222 := Tryz.isAgg224
  z222 := Tryz.sizeOf224
  v222 := Tryz.zeroValue224
  t228 := Tryz.underlying252
  a228 := Tryz.isAgg252
  z228 := Tryz.sizeOf252
  v228 := Tryz.zeroValue252
  t229 := Tryz.underlying253
  a229 := Tryz.isAgg253
  z229 := Tryz.sizeOf253
  v229 := Tryz.zeroValue253
end Go.Proofs
namespace Go.Sx
open Go
variable {w0 : World} {L F : Res}
theorem Own.grow {w : World} (h : Own w0 L w) (os : Array Obj) : Own w0 L (Go.Sort.grow w os) := by
  refine ⟨h.os, h.tape, h.output, h.drawn, ?_, h.nodup, fun p hp => ?_⟩
  · show w0.heap.size ≤ (w.heap ++ os).size
    have := h.size; rw [Array.size_append]; omega
  · show (w.heap ++ os)[p.1]? = _
    rw [Array.getElem?_append_left (h.lt hp)]; exact h.at_ p hp
theorem putCells_list {α : Type} [Inhabited α] (enc : α → Value) (xs ys : List α) (sp : List Value) (h : ys.length = xs.length) : Go.Sort.putCells enc 0 ys.toArray (xs.map enc ++ sp).toArray = (ys.map enc ++ sp).toArray := by
  apply Array.ext_getElem?
  intro i
  unfold Go.Sort.putCells
  rw [Array.getElem?_mapIdx]
  simp only [List.getElem?_toArray, List.size_toArray, Nat.zero_add, Nat.zero_le, true_and, Nat.sub_zero]
  by_cases hi : i < ys.length
  · rw [List.getElem?_append_left (by simp; omega), List.getElem?_append_left (by simpa using hi)]
    simp [hi, h ▸ hi]
  · rw [List.getElem?_append_right (by simp; omega), List.getElem?_append_right (by simp; omega)]
    simp only [List.length_map, h]
    rw [h] at hi
    simp [hi]
theorem Yi {α : Type} [Inhabited α] {enc : α → Value} {b n : Nat} {e : TypeId} {xs ys : List α} {sp : List Value} {w : World} {os : Array Obj}
    (h : Own w0 ([(b, .cells (xs.map enc ++ sp).toArray e (0, 0))] :: F) w) (hl : ys.length = xs.length) : Own w0 ([(b, .cells (ys.map enc ++ sp).toArray e (0, 0))] :: F) (Go.Sort.grow (Go.Sort.putRow enc (Go.Sort.ahead w n) b 0 ys.toArray) os) := by
  refine Own.grow ?_ os
  have hb := h.get (At.head b _ F)
  refine h.setAt (At.head b _ F) (.cells (ys.map enc ++ sp).toArray e (0, 0)) rfl rfl rfl (by simp) ?_ (fun k hk => ?_) (by show w.drawn ≤ w.drawn + n; omega)
  · show (w.heap.modify b _)[b]? = _
    rw [Array.getElem?_modify, if_pos rfl, hb, ← putCells_list enc xs ys sp hl]; rfl
  · show (w.heap.modify b _)[k]? = _
    rw [Array.getElem?_modify, if_neg (Ne.symm hk)]
theorem KX {α : Type} [Inhabited α] {enc : α → Value} {b : Nat} {e : TypeId} {xs : List α} {sp : List Value} {w : World} (h : Own w0 ([(b, .cells (xs.map enc ++ sp).toArray e (0, 0))] :: F) w) : Go.Sort.Holds enc w b 0 xs.toArray := by
  have hb := h.get (At.head b _ F)
  intro j hj
  have hj' : j < xs.length := by simpa using hj
  refine ⟨?_, ?_⟩
  · rw [JQ hb]
    simp [hj']
    rw [List.getElem?_append_left (by simpa using hj')]; simp [hj']
  · simp [World.frozen?, hb]
end Go.Sx
namespace Go.Proofs.YtjikpomndbkfgaaGreatDoor
open Go Go.Sx Go.Nd
variable {w0 : World} {L F : Res}
theorem shelf_sortI (w0 : World) (F : Res) (u : Value) (n : Nat) (xs : List Int) (C : qM) (hs : SlC 3 1 u n (iV xs) C) (hx : xs.length = n) (hn : n ≤ 1000000) :
    FnT Tryz.prog w0 51 #[u] (C :: F) (fun v L' => v = .tuple #[] ∧ ∃ C', SlC 3 1 u n (iV (srt xs)) C' ∧ L' = C' :: F) := by
  subst hx
  rcases hs with ⟨rfl, h0, h1, rfl⟩ | ⟨b, cap, sp, rfl, hcs, rfl, hcap, hnc⟩
  · refine ⟨fun w hw => ?_⟩
    have hx : xs = [] := List.length_eq_zero_iff.1 h0
    subst hx
    refine (Go.Proofs.Any.slices_Sort_int_none Go.Proofs.Tryz.laysSortI none 0 w).mono fun e w' ⟨h2, h3⟩ => ?_
    subst h3
    exact ⟨_, _, h2, ⟨rfl, [], by rw [show srt ([] : List Int) = [] from by simp [srt]]; exact zu 3 1, rfl⟩, hw⟩
  · refine ⟨fun w hw => ?_⟩
    have hw' : Own w0 ([(b, .cells (xs.map (Value.int .i64) ++ sp).toArray 3 (0, 0))] :: F) w := hw
    refine (Go.Proofs.Any.slices_Sort_int Go.Proofs.Tryz.laysSortI b 0 cap xs w (KX hw') (hw.lt (p := (b, _)) (by simp; exact .inl rfl)) (by omega)).mono fun e w' ⟨h2, k, os, h3⟩ => ?_
    subst h3
    have hl : (srt xs).length = xs.length := YK xs
    refine ⟨_, _, h2, ⟨rfl, _, ?_, rfl⟩, Yi (ys := srt xs) hw' hl⟩
    exact .inr ⟨b, cap, sp, rfl, by simp [iV, hl], rfl, by simp only [List.length_append, iV, List.length_map, hl] at hcap ⊢; exact hcap, hnc⟩
end Go.Proofs.YtjikpomndbkfgaaGreatDoor
namespace Go.Proofs
open Go.Shelf Go.RowKit Go.Lib Go.Sort
def Tryz.laysCollect_ren : Go.Shelf.Ren := ⟨fun | 8 => 49 | 11 => 82 | n => n, fun | 26 => 3 | 28 => 116 | 24 => 39 | 0 => 0 | 33 => 97 | 4 => 4 | n => n, fun | n => n⟩
theorem Tryz.laysCollect : Go.Proofs.SlLaysZI.n8 Tryz.prog Tryz.laysCollect_ren where
  mixed := by kernel_rfl
  f8 := ⟨ "slices.Collect[int]", by decide, Tryz.func49.trans (congrArg some (by kernel_rfl))⟩
  f11 := ⟨ "slices.AppendSeq[[]int,int]", by decide, Tryz.func82.trans (congrArg some (by kernel_rfl))⟩
  t0 := Tryz.underlying0
  a0 := Tryz.isAgg0
  z0 := Tryz.sizeOf0
  v0 := Tryz.zeroValue0
  t24 := Tryz.underlying39
  a24 := Tryz.isAgg39
  z24 := Tryz.sizeOf39
  v24 := Tryz.zeroValue39
  t26 := Tryz.underlying3
  a26 := Tryz.isAgg3
  z26 := Tryz.sizeOf3
  v26 := Tryz.zeroValue3
  t28 := Tryz.underlying116
  a28 := Tryz.isAgg116
  z28 := Tryz.sizeOf116
  v28 := Tryz.zeroValue116
  i26 := by kernel_rfl
def Tryz.laysKeys_ren : Go.Shelf.Ren := ⟨fun | 10 => 90 | n => n, fun | 33 => 97 | 23 => 42 | 0 => 0 | 4 => 4 | 26 => 3 | 3 => 55 | n => n, fun | n => n⟩
theorem Tryz.laysKeys : Go.Proofs.SlLaysZI.n10 Tryz.prog Tryz.laysKeys_ren where
  mixed := by kernel_rfl
  f10 := ⟨ "maps.Keys[map[int]drumlin/api.Sector,int,drumlin/api.Sector]$1", by decide, Tryz.func90.trans (congrArg some (by kernel_rfl))⟩
  t0 := Tryz.underlying0
  a0 := Tryz.isAgg0
  z0 := Tryz.sizeOf0
  v0 := Tryz.zeroValue0
  t4 := Tryz.underlying4
  a4 := Tryz.isAgg4
  z4 := Tryz.sizeOf4
  v4 := Tryz.zeroValue4
  t23 := Tryz.underlying42
  a23 := Tryz.isAgg42
  z23 := Tryz.sizeOf42
  v23 := Tryz.zeroValue42
  t26 := Tryz.underlying3
  a26 := Tryz.isAgg3
  z26 := Tryz.sizeOf3
  v26 := Tryz.zeroValue3
  t33 := Tryz.underlying97
  a33 := Tryz.isAgg97
  z33 := Tryz.sizeOf97
  v33 := Tryz.zeroValue97
end Go.Proofs
namespace Go.Proofs.YtjikpomndbkfgaaGreatDoor
open Go Go.Sx Go.Nd Go.RowKit
variable {w0 : World}
def XG (al : List (Int × Sec)) : DataW Unit := .map ((al.map fun p => ((Lit.int .i64 p.1, DataW.nil) : Lit × DataW Unit)).foldr DataW.insert [])
theorem keyD_keys (al : List (Int × Sec)) : (intKeys (XG al)).Perm (zS al) := by
  show ((List.foldr DataW.insert [] _).map fun p => Go.intOf p.1).Perm _
  refine ((Go.WideShapes.sorted_perm _).map _).trans ?_
  rw [List.map_map]
  exact List.Perm.of_eq rfl
theorem Kh (al : List (Int × Sec)) : Maps.size (XG al) = al.length := by
  show (List.foldr DataW.insert [] _).length = _
  rw [length_sorted, List.length_map]
set_option maxRecDepth 100000 in
theorem own_keys {w : World} {md : Nat} {al : List (Int × Sec)} {es : List MapEntry} {clock : Nat} (hm : w.heap[md]? = some (.map es.toArray clock)) (he : Entries (Value.int .i64) kf al es clock) (hr : ∀ k ∈ zS al, 0 ≤ k ∧ k < 1064) :
    w.ownsMap Tryz.prog 3 (fun _ => some (DataW.nil, [])) md 1064 (XG al) := by
  have hlen : es.length ≤ 1064 := by
    have h1 : es.length = (zS al).length := by rw [jN he]; simp [zS]
    have h2 := yJ (l2 := (List.range 1064).map (fun i : Nat => (i : Int))) he.nodup (fun k hk => by
      obtain ⟨h3, h4⟩ := hr k hk
      exact List.mem_map.2 ⟨k.toNat, List.mem_range.2 (by omega), by omega⟩)
    simp at h2; omega
  have hkeys : es.map (·.key) = (zS al).map (Value.int .i64) := by
    have := congrArg (List.map Prod.fst) he.pairs
    simpa [zS, List.map_map, Function.comp_def] using this
  have hread : ∀ x ∈ es, ∃ k, x.key = Value.int .i64 k ∧ k ∈ zS al := fun x hx => by
    have : x.key ∈ es.map (·.key) := List.mem_map.2 ⟨x, hx, rfl⟩
    rw [hkeys] at this
    obtain ⟨k, h1, h2⟩ := List.mem_map.1 this
    exact ⟨k, h2.symm, h1⟩
  have hu : Tryz.prog.underlying 3 = some (.int .i64) := by kernel_rfl
  have hwf : ∀ k : Int, k ∈ zS al → (Lit.int .i64 k).wf = true := fun k hk => by
    obtain ⟨h3, h4⟩ := hr k hk
    simp [Lit.wf, IntKind.min, IntKind.max, IntKind.bits, IntKind.signed]; omega
  have hrd : ∀ x ∈ es, ∀ k, x.key = Value.int .i64 k → k ∈ zS al → Go.WideElems.rd Tryz.prog 3 (fun _ => some ((DataW.nil : DataW Unit), ([] : List MemPlace))) x = some (Lit.int .i64 k, DataW.nil) := fun x hx k h1 h2 => by
    unfold Go.WideElems.rd
    rw [h1, Go.Maps.keyOf_int_mk hu (hwf k h2)]; rfl
  refine ⟨es.toArray, clock, hm, ⟨by simp [maxLen]; omega, ⟨fun x hx => he.young x (by simpa using hx), ?_, ?_⟩, fun x hx => ?_⟩, by simpa using hlen, ?_⟩
  · have := he.asc.imp (fun {a b} (h : a < b) => Nat.ne_of_lt h)
    simpa [List.Nodup] using this
  · show (es.map (·.key)).Nodup
    rw [hkeys]
    exact (List.pairwise_map.2 (he.nodup.imp (fun {a b} h e => h (by cases e; rfl))))
  · obtain ⟨k, h1, h2⟩ := hread x (by simpa using hx)
    exact ⟨_, hrd x (by simpa using hx) k h1 h2⟩
  · unfold XG
    congr 1
    congr 1
    apply List.ext_getElem?
    intro i
    simp only [List.getElem?_map]
    cases ha : al[i]? with
    | none =>
      have : es[i]? = none := by rw [List.getElem?_eq_none_iff] at ha ⊢; rw [jN he]; exact ha
      simp [this]
    | some p =>
      obtain ⟨e, h1, h2, _⟩ := kn he (q := p.1) (v := p.2) ha
      simp only [h1, Option.map_some, Option.some.injEq]
      unfold Go.WideElems.rg
      rw [hrd e (List.mem_of_getElem? h1) p.1 h2 (List.mem_map.2 ⟨p, List.mem_of_getElem? ha, rfl⟩)]
      rfl
theorem own_below {F : Res} {w w' : World} (hd : w0.drawn = 0) {C : qM} {v : Value} {ss : List Int} (hw : Own w0 F w) (hB : Below w.heap.size w w') (hr : w'.ownsRow w.heap.size 3 1 v ss.length (ss.map encZ)) :
    ∃ C, SlC 3 1 v ss.length (iV ss) C ∧ Own w0 (C :: F) w' := by
  have hold : Own w0 F w' := ⟨hB.os.trans hw.os, hB.tape.trans hw.tape, hB.output.trans hw.output, by rw [hd]; exact Nat.zero_le _, Nat.le_trans hw.size hB.size, hw.nodup, fun p hp => (hB.block p.1 (hw.lt hp)).trans (hw.at_ p hp)⟩
  obtain ⟨h1, ⟨rfl, h2⟩ | ⟨g, cap, cur, rfl, h3, h4, h5, h6, h7, h8⟩⟩ := hr
  · have : ss = [] := List.length_eq_zero_iff.1 h2
    subst this
    exact ⟨[], zu 3 1, hold.perm (by simp)⟩
  · refine ⟨[(g, .cells cur 3 (0, 0))], .inr ⟨g, cap, cur.toList.drop ss.length, rfl, by simp [iV], ?_, ?_, h5⟩, ⟨hold.os, hold.tape, hold.output, hold.drawn, hold.size, ?_, ?_⟩⟩
    · have : iV ss ++ cur.toList.drop ss.length = cur.toList := by
        rw [show iV ss = ss.map encZ from rfl, ← h8, Nat.mul_one, List.take_append_drop]
      rw [this, Array.toArray_toList]
    · have : iV ss ++ cur.toList.drop ss.length = cur.toList := by
        rw [show iV ss = ss.map encZ from rfl, ← h8, Nat.mul_one, List.take_append_drop]
      rw [this, Array.length_toList, h7]
    · simp only [List.flatten_cons, List.map_append, List.map_cons, List.map_nil, List.singleton_append, List.nodup_cons]
      refine ⟨fun hm => ?_, hold.nodup⟩
      obtain ⟨p, hp, e⟩ := List.mem_map.1 hm
      have := hw.lt hp
      omega
    · intro p hp
      simp only [List.flatten_cons, List.singleton_append, List.mem_cons] at hp
      rcases hp with rfl | hp
      · exact h4
      · exact hold.at_ p hp
theorem cF8 : Tryz.laysCollect_ren.f 8 = 49 := by kernel_rfl
theorem cF11 : Tryz.laysCollect_ren.f 11 = 82 := by kernel_rfl
theorem cT26 : Tryz.laysCollect_ren.t 26 = 3 := by kernel_rfl
theorem VJ : Tryz.laysKeys_ren.f 10 = 90 := by kernel_rfl
theorem kT26 : Tryz.laysKeys_ren.t 26 = 3 := by kernel_rfl
theorem collect_at {g : Nat} (L : List FuncId) (h1 : 49 ∈ L) (h2 : 82 ∈ L) (h3 : g ∈ L) [he : Go.Sx.Enters Tryz.prog g] (lb : Array Value) (Dp : Nat) (S : List Int → Prop) (N : Nat) (hN : N ≤ maxLen) (hNb : N * 8 ≤ 140737488355328) (w : World)
    (hseq : SeqGives (Fence.list L (some Dp)) 1 Tryz.prog g lb encZ S N w) :
    CallsIn (Fence.list L (some Dp)) 3 Tryz.prog 49 #[.func (.func g) #[] lb] w fun e w' => ∃ (v : Value) (ss : List Int), e = .returned v ∧ S ss ∧ w'.ownsRow w.heap.size 3 1 v ss.length (ss.map encZ) ∧ (v = .slice none 0 0 ↔ ss = []) ∧ Below w.heap.size w w' := by
  have h := Go.Proofs.AnyZI.collect_in Go.Proofs.Tryz.laysCollect (Fence.list L (some Dp)) 3 (by rw [cF8]; exact h1) (by rw [cF11]; exact h2) rfl (by omega) g lb h3 he.h S N hN hNb w hseq
  rw [cF8, cT26] at h
  exact h
theorem gives_key (Dp b md nn : Nat) (D0 : DataW Unit) (w : World) (hb : b < w.heap.size) (hc : w.cell? ⟨b, 0, none⟩ = some (.map (some md))) (hown : w.ownsMap Tryz.prog 3 (fun _ => some (DataW.nil, [])) md nn D0) :
    SeqGives (Fence.list [49, 82, 90] (some Dp)) 1 Tryz.prog 90 #[.pointer (some ⟨b, 0, none⟩)] encZ (fun ss => ss.Perm (intKeys D0)) (Maps.size D0) w := by
  have h := Go.Proofs.AnyZI.keys_gives Go.Proofs.Tryz.laysKeys (Fence.list [49, 82, 90] (some Dp)) 1 (by rw [VJ]; simp [Fence.list]) rfl (by omega) b md nn D0 w hb hc (by rw [kT26]; exact hown)
  rw [VJ] at h
  exact h
theorem shelf_keys (hd : w0.drawn = 0) (F : Res) (b md : Nat) (e : TypeId) (fr : Nat × Nat) (od : Obj) (f : Int → Option Sec) (ho : MapF (Value.int .i64) kf f od) (hf : ∀ k, f k ≠ none → 0 ≤ k ∧ k < 1064) :
    FnT Tryz.prog w0 49 #[.func (.func 90) [].toArray [.pointer (some ⟨b, 0, none⟩)].toArray] ([(b, .cells [Value.map (some md)].toArray e fr)] :: [(md, od)] :: F)
      (fun v L' => ∃ ks C, SlC 3 1 v ks.length (iV ks) C ∧ ks.Nodup ∧ (∀ k, k ∈ ks ↔ f k ≠ none) ∧ L' = C :: [(b, .cells [Value.map (some md)].toArray e fr)] :: [(md, od)] :: F) := by
  refine ⟨fun w hw => ?_⟩
  obtain ⟨al, ⟨es, clock, rfl, he⟩, hg⟩ := ho
  have hk : ∀ k, k ∈ zS al ↔ f k ≠ none := fun k => by
    rw [← hg k]
    have := Wy (l := al) (q := k)
    constructor
    · intro h1 h2; exact this.1 h2 h1
    · intro h1; exact Classical.byContradiction fun h2 => h1 (this.2 h2)
  have hb : w.heap[b]? = some (.cells [Value.map (some md)].toArray e fr) := hw.at_ (b, _) (by simp)
  have hm : w.heap[md]? = some (.map es.toArray clock) := hw.at_ (md, _) (by simp)
  have hown := own_keys hm he (fun k hk' => hf k ((hk k).1 hk'))
  have hlen : al.length ≤ 1064 := by
    obtain ⟨_, _, h1, _, h2, _⟩ := hown
    rw [hm] at h1; cases h1
    rw [← jN he]; simpa using h2
  have hcell : w.cell? ⟨b, 0, none⟩ = some (.map (some md)) := by rw [JQ hb]; rfl
  have hcall : Calls Tryz.prog 49 #[.func (.func 90) #[] #[.pointer (some ⟨b, 0, none⟩)]] w _ := calls_of_every_depth (L := [49, 82, 90]) (n := 3) fun Dp => collect_at (g := 90) [49, 82, 90] (by simp) (by simp) (by simp) #[.pointer (some ⟨b, 0, none⟩)] Dp (fun ss => ss.Perm (intKeys (XG al))) (Maps.size (XG al)) (by rw [Kh]; simp [maxLen]; omega) (by rw [Kh]; omega) w
      (gives_key Dp b md 1064 (XG al) w (hw.lt (p := (b, .cells [Value.map (some md)].toArray e fr)) (by simp)) hcell hown)
  refine hcall.mono fun e' w' ⟨v, ss, h1, h2, h3, h4, h5⟩ => ?_
  obtain ⟨C, h6, h7⟩ := own_below (C := []) hd hw h5 h3
  have hp := h2.trans (keyD_keys al)
  exact ⟨v, _, h1, ⟨ss, C, h6, hp.nodup_iff.2 he.nodup, fun k => by rw [← hk]; exact hp.mem_iff, rfl⟩, h7⟩
theorem shelfI (hd : w0.drawn = 0) : j3 w0 := ⟨shelf_sortI w0, shelf_keys hd⟩
end Go.Proofs.YtjikpomndbkfgaaGreatDoor
namespace Go.Proofs
open Go.Shelf Go.RowKit Go.Lib Go.Sort
def Tryz.laysSortF_ren : Go.Shelf.Ren := ⟨fun | 6 => 79 | 15 => 85 | 14 => 105 | 28 => 115 | 29 => 116 | 20 => 128 | 21 => 129 | 22 => 130 | 23 => 131 | 24 => 132 | 25 => 133 | 26 => 134 | 27 => 135 | 46 => 151 | 47 => 137 | 48 => 138 | 49 => 152 | 50 => 153 | 57 => 160 | n => n, fun | 22 => 110 | 24 => 100 | 25 => 152 | 3 => 3 | 39 => 158 | 0 => 0 | 53 => 34 | 55 => 199 | 4 => 4 | 46 => 190 | 45 => 189 | 50 => 195 | 5 => 5 | 9 => 9 | 66 => 220 | 70 => 224 | 76 => 252 | 77 => 253 | n => n, fun | n => n⟩
theorem Tryz.laysSortF : Go.Proofs.SlLaysF0.n6 Tryz.prog Tryz.laysSortF_ren where
  mixed := by kernel_rfl
  f6 := ⟨ "slices.SortFunc[[]drumlin/node.part,drumlin/node.part]", by decide, Tryz.func79.trans (congrArg some (by kernel_rfl))⟩
  f14 := ⟨ "slices.pdqsortCmpFunc[drumlin/node.part]", by decide, Tryz.func105.trans (congrArg some (by kernel_rfl))⟩
  f15 := Tryz.func85.trans (congrArg some (by kernel_rfl))
  f20 := ⟨ "slices.insertionSortCmpFunc[drumlin/node.part]", by decide, Tryz.func128.trans (congrArg some (by kernel_rfl))⟩
  f21 := ⟨ "slices.heapSortCmpFunc[drumlin/node.part]", by decide, Tryz.func129.trans (congrArg some (by kernel_rfl))⟩
  f22 := ⟨ "slices.breakPatternsCmpFunc[drumlin/node.part]", by decide, Tryz.func130.trans (congrArg some (by kernel_rfl))⟩
  f23 := ⟨ "slices.choosePivotCmpFunc[drumlin/node.part]", by decide, Tryz.func131.trans (congrArg some (by kernel_rfl))⟩
  f24 := ⟨ "slices.reverseRangeCmpFunc[drumlin/node.part]", by decide, Tryz.func132.trans (congrArg some (by kernel_rfl))⟩
  f25 := ⟨ "slices.partialInsertionSortCmpFunc[drumlin/node.part]", by decide, Tryz.func133.trans (congrArg some (by kernel_rfl))⟩
  f26 := ⟨ "slices.partitionEqualCmpFunc[drumlin/node.part]", by decide, Tryz.func134.trans (congrArg some (by kernel_rfl))⟩
  f27 := ⟨ "slices.partitionCmpFunc[drumlin/node.part]", by decide, Tryz.func135.trans (congrArg some (by kernel_rfl))⟩
  f28 := Tryz.func115.trans (congrArg some (by kernel_rfl))
  f29 := Tryz.func116.trans (congrArg some (by kernel_rfl))
  f46 := ⟨ "slices.siftDownCmpFunc[drumlin/node.part]", by decide, Tryz.func151.trans (congrArg some (by kernel_rfl))⟩
  f47 := Tryz.func137.trans (congrArg some (by kernel_rfl))
  f48 := Tryz.func138.trans (congrArg some (by kernel_rfl))
  f49 := ⟨ "slices.medianAdjacentCmpFunc[drumlin/node.part]", by decide, Tryz.func152.trans (congrArg some (by kernel_rfl))⟩
  f50 := ⟨ "slices.medianCmpFunc[drumlin/node.part]", by decide, Tryz.func153.trans (congrArg some (by kernel_rfl))⟩
  f57 := ⟨ "slices.order2CmpFunc[drumlin/node.part]", by decide, Tryz.func160.trans (congrArg some (by kernel_rfl))⟩
  t0 := Tryz.underlying0
  a0 := Tryz.isAgg0
  z0 := Tryz.sizeOf0
  v0 := Tryz.zeroValue0
  t3 := Tryz.underlying3
  a3 := Tryz.isAgg3
  z3 := Tryz.sizeOf3
  v3 := Tryz.zeroValue3
  t4 := Tryz.underlying4
  a4 := Tryz.isAgg4
  z4 := Tryz.sizeOf4
  v4 := Tryz.zeroValue4
  t5 := Tryz.underlying5
  a5 := Tryz.isAgg5
  z5 := Tryz.sizeOf5
  v5 := Tryz.zeroValue5
  t9 := Tryz.underlying9
  a9 := Tryz.isAgg9
  z9 := Tryz.sizeOf9
  v9 := Tryz.zeroValue9
  t22 := Tryz.underlying110
  a22 := Tryz.isAgg110
  z22 := Tryz.sizeOf110
  v22 := Tryz.zeroValue110
  t25 := Tryz.underlying152
  a25 := Tryz.isAgg152
  z25 := Tryz.sizeOf152
  v25 := Tryz.zeroValue152
  t39 := Tryz.underlying158
  a39 := Tryz.isAgg158
  z39 := Tryz.sizeOf158
  v39 := Tryz.zeroValue158
  t45 := Tryz.underlying189
  a45 := Tryz.isAgg189
  z45 := Tryz.sizeOf189
  v45 := Tryz.zeroValue189
  t46 := Tryz.underlying190
  a46 := Tryz.isAgg190
  z46 := Tryz.sizeOf190
  v46 := Tryz.zeroValue190
  t50 := Tryz.underlying195
  a50 := Tryz.isAgg195
  z50 := Tryz.sizeOf195
  v50 := Tryz.zeroValue195
  t53 := Tryz.underlying34
  a53 := Tryz.isAgg34
  z53 := Tryz.sizeOf34
  v53 := Tryz.zeroValue34
  t55 := Tryz.underlying199
  a55 := Tryz.isAgg199
  z55 := Tryz.sizeOf199
  v55 := Tryz.zeroValue199
  t66 := Tryz.underlying220
  a66 := Tryz.isAgg220
  z66 := Tryz.sizeOf220
  v66 := Tryz.zeroValue220
  t70 := Tryz.underlying224
  a70 := Tryz.isAgg224
  z70 := Tryz.sizeOf224
  v70 := Tryz.zeroValue224
  t76 := Tryz.underlying252
  a76 := Tryz.isAgg252
  z76 := Tryz.sizeOf252
  v76 := Tryz.zeroValue252
  t77 := Tryz.underlying253
  a77 := Tryz.isAgg253
  z77 := Tryz.sizeOf253
  v77 := Tryz.zeroValue253
end Go.Proofs
namespace Go.Proofs.YtjikpomndbkfgaaGreatDoor
open Go Go.Sx Go.Nd
variable {w0 : World} {L F : Res}
set_option maxRecDepth 10000
theorem KY {k : Int × Int} (h : qo k) : (JE k.1).getD 0 = Yj k.1 ∧ 0 ≤ Yj k.1 ∧ Yj k.1 ≤ 4 := by
  rcases h with ⟨h, -⟩ | rfl | rfl | rfl | ⟨h, -⟩
  · rw [h]; decide
  · decide
  · decide
  · decide
  · rw [h]; decide
theorem XW {k : Int × Int} (h : qo k) : 0 ≤ k.2 ∧ k.2 < 1064 := by
  rcases h with ⟨-, h1, h2⟩ | rfl | rfl | rfl | ⟨-, h1, h2⟩
  · exact ⟨h1, h2⟩
  · decide
  · decide
  · decide
  · omega
theorem cmp_ok (b r : Nat) (o : Obj) (ho : MapF (Value.int .i64) (Value.int .i64) JE o) (x y : Int × Int) (hx : qo x) (hy : qo y) :
    FnT Tryz.prog w0 80 #[.agg (wt x).toArray, .agg (wt y).toArray, .pointer (some ⟨b, 0, none⟩)] ([(b, .cells [Value.map (some r)].toArray 150 (0, 0))] :: [(r, o)] :: F)
      (fun v L' => v = .int .i64 (k9 x y) ∧ L' = [(b, .cells [Value.map (some r)].toArray 150 (0, 0))] :: [(r, o)] :: F) := by
  have h1 := KY hx
  have h2 := KY hy
  have h3 := XW hx
  have h4 := XW hy
  rw [show wt x = [.int .i64 x.1, .int .i64 x.2] from rfl, show wt y = [.int .i64 y.1, .int .i64 y.2] from rfl]
  refine FnT.enter (E0 := [(0, _), (1, _), (2, _)]) (N := 25) Tryz.func80 rfl rfl rfl rfl ?_
  refine Tr.seq <| Tr.region <| qF (wT rfl) ?_
  rintro t3 _ ⟨b3, rfl, rfl⟩
  refine qF (wT rfl) ?_
  rintro t4 _ ⟨b4, rfl, rfl⟩
  refine q9 (qC rfl) <| qB <| QAt.seq <| Tr.seq <| Tr.seq <| Tr.region <| q9 (qD rfl) <| q9 (qG rfl rfl) <| q9 (qD rfl) <| q9 (qG rfl rfl) <| q9 (wZ rfl rfl) <| qB <| QAt.seq <| qI rfl (fun hc1 => ?_) (fun hc1 => ?_)
  ·
   refine Tr.seq <| Tr.region <| q9 (qG rfl rfl) <| q9 (qD rfl) <| q9 (qG rfl rfl) <| q9 (y1 (z := 0) (q := x.1) rfl rfl ho) <| q9 (qG rfl rfl) <| q9 (qD rfl) <| q9 (qG rfl rfl) <| q9 (y1 (z := 0) (q := y.1) rfl rfl ho) <| q9 (zV rfl rfl (by omega)) <| q9 (qC rfl) <| qB <| QAt.seq <| Tr.ret <| qe <| qs ([(b, .cells [Value.map (some r)].toArray 150 (0, 0))] :: [(r, o)] :: F) (.inl rfl) rfl (qd rfl) ?_
   exact ⟨by unfold k9; rw [if_pos hc1, h1.1, h2.1], rfl⟩
  ·
   refine Tr.skip <| QAt.seq <| Tr.seq <| Tr.region <| q9 (qD rfl) <| q9 (qG rfl rfl) <| q9 (qD rfl) <| q9 (qG rfl rfl) <| q9 (zV rfl rfl (by omega)) <| q9 (qC rfl) <| qB <| QAt.seq <| Tr.ret <| qs ([(b, .cells [Value.map (some r)].toArray 150 (0, 0))] :: [(r, o)] :: F) (.inl rfl) rfl (qd rfl) ?_
   exact ⟨by unfold k9; rw [if_neg hc1], rfl⟩
theorem call_pure {P : Program} {f : FuncId} {args : Array Value} {v : Value} {b r : Nat} {ob o : Obj} (hf : ∀ (w0 : World) (F : Res), FnT P w0 f args ([(b, ob)] :: [(r, o)] :: F) (fun v' L' => v' = v ∧ L' = [(b, ob)] :: [(r, o)] :: F))
    {W : World} (hb : W.heap[b]? = some ob) (hr : W.heap[r]? = some o) (hne : b ≠ r) : Calls P f args W (fun e w' => e = .returned v ∧ ∃ q os', w' = Go.Sort.grow (W.drewN q) os') := by
  let rest : qM := ((List.range W.heap.size).filter (fun i => decide (i ≠ b ∧ i ≠ r))).filterMap (fun i => (W.heap[i]?).map (fun z => (i, z)))
  have hmem : ∀ p : XO, p ∈ rest ↔ (p.1 ≠ b ∧ p.1 ≠ r ∧ W.heap[p.1]? = some p.2) := by
    intro p
    simp only [rest, List.mem_filterMap, List.mem_filter, List.mem_range, decide_eq_true_eq, Option.map_eq_some_iff]
    constructor
    · rintro ⟨i, ⟨h1, h2, h3⟩, z, hz, rfl⟩; exact ⟨h2, h3, hz⟩
    · rintro ⟨h1, h2, h3⟩
      exact ⟨p.1, ⟨(Array.getElem?_eq_some_iff.1 h3).1, h1, h2⟩, p.2, h3, rfl⟩
  have hnd : (rest.map (·.1)).Nodup := by
    have e : rest.map (·.1) = ((List.range W.heap.size).filter (fun i => decide (i ≠ b ∧ i ≠ r))) := by
      have key : ∀ l : List Nat, (∀ i ∈ l, i < W.heap.size) → (l.filterMap (fun i => (W.heap[i]?).map (fun z => (i, z)))).map (·.1) = l := by
        intro l
        induction l with
        | nil => intro _; rfl
        | cons i l ih =>
          intro h
          have hi := h i (by simp)
          rw [List.filterMap_cons, Array.getElem?_eq_getElem hi]
          simp only [Option.map_some, List.map_cons]
          rw [ih (fun j hj => h j (by simp [hj]))]
      exact key _ (fun i hi => List.mem_range.1 (List.mem_filter.1 hi).1)
    rw [e]; exact List.nodup_range.filter _
  have hown : Own W ([(b, ob)] :: [(r, o)] :: [rest]) W := by
    refine ⟨rfl, rfl, rfl, Nat.le_refl _, Nat.le_refl _, ?_, ?_⟩
    · simp only [List.flatten_cons, List.flatten_nil, List.append_nil, List.singleton_append, List.map_cons, List.nodup_cons, List.mem_cons, List.mem_map, not_or]
      refine ⟨⟨hne, fun ⟨p, hp, e⟩ => ((hmem p).1 hp).1 e⟩, fun ⟨p, hp, e⟩ => ((hmem p).1 hp).2.1 e, hnd⟩
    · intro p hp
      simp only [List.flatten_cons, List.flatten_nil, List.append_nil, List.singleton_append, List.mem_cons] at hp
      rcases hp with rfl | rfl | hp
      · exact hb
      · exact hr
      · exact ((hmem p).1 hp).2.2
  refine ((hf W [rest]).h W hown).mono fun e w' ⟨v', L', h1, ⟨h2, h3⟩, h4⟩ => ?_
  subst h2; subst h3
  refine ⟨h1, w'.drawn - W.drawn, w'.heap.extract W.heap.size w'.heap.size, ?_⟩
  have hsz := h4.size
  have hdr := h4.drawn
  have hh : w'.heap = W.heap ++ w'.heap.extract W.heap.size w'.heap.size := by
    apply Array.ext_getElem?
    intro i
    by_cases hi : i < W.heap.size
    · rw [Array.getElem?_append_left hi]
      by_cases e1 : i = b
      · rw [e1, hb]; exact h4.at_ (b, ob) (by simp)
      · by_cases e2 : i = r
        · rw [e2, hr]; exact h4.at_ (r, o) (by simp)
        · have hz : W.heap[i]? = some W.heap[i] := Array.getElem?_eq_getElem hi
          rw [hz]; exact h4.at_ (i, W.heap[i]) (by simp; exact .inr (.inr ((hmem (i, W.heap[i])).2 ⟨e1, e2, hz⟩)))
    · rw [Array.getElem?_append_right (by omega), Array.getElem?_extract]
      by_cases h5 : i < w'.heap.size
      · rw [if_pos (by omega)]; congr 1; omega
      · rw [if_neg (by omega), Array.getElem?_eq_none (by omega)]
  show w' = { W with drawn := W.drawn + (w'.drawn - W.drawn), heap := W.heap ++ _ }
  rw [← hh, show W.drawn + (w'.drawn - W.drawn) = w'.drawn from by omega, ← h4.os, ← h4.tape, ← h4.output]
abbrev PT := {k : Int × Int // qo k}
instance : Inhabited PT := ⟨⟨(2, 0), .inr (.inl rfl)⟩⟩
def ke (k : PT) : List Value := wt k.1
def ZM (x y : PT) : Int := k9 x.1 y.1
theorem jy (x y : Int × Int) : k9 y x = - k9 x y := by
  unfold k9
  by_cases h : x.1 = y.1
  · rw [if_neg (by simp [h]), if_neg (by simp [h])]; omega
  · rw [if_pos (Ne.symm h), if_pos h]; omega
theorem swo_PT : Go.Sort.SWO (Go.Proofs.ltOf ZM) := by
  refine ⟨fun x => ?_, fun x y z h1 h2 => ?_, fun x y z h1 h2 => ?_⟩
  · unfold Go.Proofs.ltOf ZM
    have := jy x.1 x.1
    exact decide_eq_false (by omega)
  · unfold Go.Proofs.ltOf ZM at *
    have h1 := of_decide_eq_true h1
    have h2 := of_decide_eq_true h2
    have a := Qh x.2 y.2 z.2 (by omega) (by omega)
    refine decide_eq_true ?_
    refine Classical.byContradiction fun hn => ?_
    have e : k9 z.1 x.1 ≤ 0 := by have := jy x.1 z.1; omega
    have b := Qh y.2 z.2 x.2 (by omega) e
    have := jy x.1 y.1
    omega
  · unfold Go.Proofs.ltOf ZM at *
    have h1 := of_decide_eq_false h1
    have h2 := of_decide_eq_false h2
    refine decide_eq_false ?_
    have e1 : k9 y.1 x.1 ≤ 0 := by have := jy x.1 y.1; omega
    have e2 : k9 z.1 y.1 ≤ 0 := by have := jy y.1 z.1; omega
    have := Qh z.2 y.2 x.2 e2 e1
    have := jy x.1 z.1
    omega
theorem K3 (xs : List PT) : Go.Sort.flatK ke 2 xs.toArray = (xs.flatMap ke).toArray := by
  apply Array.ext_getElem?
  intro t
  have hlen := yy (enc := ke) (sz := 2) (fun _ => rfl) xs
  by_cases ht : t < xs.length * 2
  · have hj : t / 2 < xs.length := by omega
    have h1 := K2 (enc := ke) (sz := 2) (fun _ => rfl) xs [] (j := t / 2) (k := t % 2) (List.getElem?_eq_getElem hj) (by omega)
    rw [List.append_nil, show t / 2 * 2 + t % 2 = t from by omega] at h1
    have h6 : (xs.flatMap ke).toArray[t]? = (xs.flatMap ke)[t]? := by simp
    rw [h6, h1]
    have h2 := Go.Sort.get_flatK ke 2 xs.toArray t (by simpa using ht)
    have h3 : t < (Go.Sort.flatK ke 2 xs.toArray).size := by rw [Go.Sort.size_flatK]; simpa using ht
    rw [getElem!_pos _ t h3] at h2
    rw [Array.getElem?_eq_getElem h3, h2]
    have h4 : xs.toArray[t / 2]! = xs[t / 2] := by simp [hj]
    rw [h4]
    have h5 : t % 2 < (ke xs[t / 2]).length := by show _ < 2; omega
    rw [List.getElem?_eq_getElem h5, getElem!_pos (ke xs[t / 2]) (t % 2) h5]
  · have e1 : (Go.Sort.flatK ke 2 xs.toArray).size ≤ t := by rw [Go.Sort.size_flatK, List.size_toArray]; omega
    have e2 : (xs.flatMap ke).toArray.size ≤ t := by rw [List.size_toArray, hlen]; omega
    rw [Array.getElem?_eq_none e1, Array.getElem?_eq_none e2]
theorem att_map : ∀ (xs : List (Int × Int)), (∀ x ∈ xs, qo x) → ∃ ys : List PT, ys.map (·.1) = xs := by
  intro xs
  induction xs with
  | nil => intro _; exact ⟨[], rfl⟩
  | cons x xs ih =>
    intro h
    obtain ⟨ys, hy⟩ := ih (fun z hz => h z (by simp [hz]))
    exact ⟨⟨x, h x (by simp)⟩ :: ys, by rw [List.map_cons, hy]⟩
theorem X5 (ys : List PT) : ys.flatMap ke = (ys.map (·.1)).flatMap wt := by rw [List.flatMap_map]; rfl
theorem srt_PT (ys : List PT) : (ys.mergeSort (fun x y => !(Go.Proofs.ltOf ZM) y x)).map (·.1) = Zb (ys.map (·.1)) := by
  unfold Zb
  refine List.map_mergeSort (r := fun x y => !(Go.Proofs.ltOf ZM) y x) (s := fun a b => decide (k9 a b ≤ 0)) (f := fun x : PT => x.1) (l := ys) (fun x _ y _ => ?_)
  unfold Go.Proofs.ltOf ZM
  have := jy x.1 y.1
  by_cases h : k9 y.1 x.1 < 0
  · rw [decide_eq_true h, decide_eq_false (by omega)]; rfl
  · rw [decide_eq_false h, decide_eq_true (by omega)]; rfl
theorem shelf_sortP (w0 : World) (F : Res) (u : Value) (xs : List (Int × Int)) (C : qM) (b r : Nat) (o : Obj) (hs : SlC 100 2 u xs.length (xs.flatMap wt) C) (hn : xs.length ≤ 1000000) (hx : ∀ x ∈ xs, qo x) (ho : MapF (Value.int .i64) (Value.int .i64) JE o) :
    FnT Tryz.prog w0 79 #[u, .func (.func 80) #[] #[.pointer (some ⟨b, 0, none⟩)]] (C :: [(b, .cells [Value.map (some r)].toArray 150 (0, 0))] :: [(r, o)] :: F)
      (fun v L' => v = .tuple #[] ∧ ∃ C', SlC 100 2 u xs.length ((Zb xs).flatMap wt) C' ∧ L' = C' :: [(b, .cells [Value.map (some r)].toArray 150 (0, 0))] :: [(r, o)] :: F) := by
  rcases hs with ⟨rfl, h0, h1, rfl⟩ | ⟨blk, cap, sp, rfl, hcs, rfl, hcap, hnc⟩
  · refine ⟨fun w hw => ?_⟩
    have hx0 : xs = [] := List.length_eq_zero_iff.1 h0
    subst hx0
    refine (Go.Proofs.AnyF.slices_SortFunc_none Go.Proofs.Tryz.laysSortF none 0 _ w).mono fun e w' ⟨h2, h3⟩ => ?_
    subst h3
    exact ⟨_, _, h2, ⟨rfl, [], by rw [show Zb ([] : List (Int × Int)) = [] from by simp [Zb]]; exact zu 100 2, rfl⟩, hw⟩
  · refine ⟨fun w hw => ?_⟩
    obtain ⟨ys, hys⟩ := att_map xs hx
    have hyl : ys.length = xs.length := by rw [← hys, List.length_map]
    have hfl : xs.flatMap wt = ys.flatMap ke := by rw [X5, hys]
    have hw' : Own w0 ([(blk, .cells ((ys.flatMap ke).map id ++ sp).toArray 100 (0, 0))] :: [(b, .cells [Value.map (some r)].toArray 150 (0, 0))] :: [(r, o)] :: F) w := by rw [List.map_id, ← hfl]; exact hw
    have hne : b ≠ r := by
      have := hw.nodup
      simp at this; exact fun e => this.2.1.1 e
    have key : ∀ (m : Nat) (os : Array Obj) (zs : List PT), zs.length = ys.length → Own w0 ([(blk, .cells ((zs.flatMap ke).map id ++ sp).toArray 100 (0, 0))] :: [(b, .cells [Value.map (some r)].toArray 150 (0, 0))] :: [(r, o)] :: F) (sortWorldK ke 2 w blk 0 m zs.toArray os) := by
      intro m os zs hz
      unfold Go.Proofs.sortWorldK Go.Sort.putRowK
      rw [K3]
      exact Yi (enc := id) hw' (by rw [yy (enc := ke) (sz := 2) (fun _ => rfl), yy (enc := ke) (sz := 2) (fun _ => rfl), hz])
    have hcmp : Go.Proofs.CmpLays Tryz.prog 80 #[.pointer (some ⟨b, 0, none⟩)] ke 2 ZM blk 0 ys.toArray.size w := by
      intro m os dk hdk x y
      obtain ⟨zs⟩ := dk
      have ho' := key m os zs (by simpa using hdk)
      exact call_pure (fun w0 F => cmp_ok b r o ho x.1 y.1 x.2 y.2) (ho'.at_ (b, _) (by simp)) (ho'.at_ (r, o) (by simp)) hne
    have hH : Go.Sort.HoldsK ke 2 w blk 0 ys.toArray := by
      unfold Go.Sort.HoldsK
      rw [K3]
      exact KX (enc := id) hw'
    have hA : ∀ w, (isAgg 100).run Tryz.prog w = .ok true w := fun w => by kernel_rfl
    have hZ : ∀ w, (Go.sizeOf 100).run Tryz.prog w = .ok 2 w := fun w => by kernel_rfl
    have hE : ∀ args w, (callFunc 80 args).run Tryz.prog w = .ok (.enter 80 args) w := (inferInstance : Go.Sx.Enters Tryz.prog 80).h
    have hall := Go.Proofs.AnyQ.slices_SortFunc_total Go.Proofs.Tryz.laysSortF 2 hA hZ ke (fun _ => rfl)
    have h1c : ∀ x, ∀ v ∈ ke x, v.oneCell' = true := fun x v hv => by
      simp only [ke, wt, List.mem_cons, List.not_mem_nil, or_false] at hv
      rcases hv with rfl | rfl <;> rfl
    have hT : ∀ x y, (Go.Proofs.ltOf ZM) x y = false → (Go.Proofs.ltOf ZM) y x = false → x = y := fun x y h1 h2 => by
      unfold Go.Proofs.ltOf ZM at h1 h2
      have h1 := of_decide_eq_false h1
      have h2 := of_decide_eq_false h2
      have := jy x.1 y.1
      exact Subtype.ext (Kp x.2 y.2 (by omega) (by omega))
    have hblk : blk < w.heap.size := hw.lt (p := (blk, _)) (by simp; exact .inl rfl)
    have hfin := hall h1c ZM swo_PT 80 #[.pointer (some ⟨b, 0, none⟩)] blk 0 cap ys.toArray w hE hcmp hH hblk (by simp; omega) hT
    have hsz : ys.toArray.size = xs.length := by simp [hyl]
    rw [hsz] at hfin
    refine hfin.mono fun e w' ⟨h2, k, os, h3⟩ => ?_
    have hml : (ys.mergeSort (fun x y => !(Go.Proofs.ltOf ZM) y x)).length = ys.length := List.length_mergeSort _
    have hk := key k os (ys.mergeSort (fun x y => !(Go.Proofs.ltOf ZM) y x)) hml
    rw [List.map_id, X5, srt_PT, hys] at hk
    have hsl : (Zb xs).length = xs.length := List.length_mergeSort _
    refine ⟨_, _, h2, ⟨rfl, _, ?_, rfl⟩, by rw [h3]; exact hk⟩
    refine .inr ⟨blk, cap, sp, rfl, by rw [yy zb, hsl], rfl, ?_, hnc⟩
    rw [List.length_append, yy zb] at hcap
    rw [List.length_append, yy zb, hsl]; exact hcap
theorem shelfP : xc := ⟨shelf_sortP⟩
open Go Go.Sx Go.Nd Go.RowKit Go.Deep Go.ChangeShapes Go.WideShapes Go.ChangeAt
set_option maxRecDepth 100000
theorem own_knob : ownKnob Tryz.prog.godebug = none := by kernel_rfl
theorem laid_out : laidOutB Tryz.prog = true := by kernel_rfl
theorem door_met (os : Os) (args : Array Value) : laidMetH Tryz.prog Ke ((World.doorLaid Tryz.prog 400 os).forCall (fun _ _ => 0) ⟨#[], args, []⟩).memory :=
  laidMetH_of_parts3 (fuel := 8) (laidMet_of_run' 8 (by kernel_rfl) (by kernel_rfl)) (by kernel_rfl) (by kernel_rfl)
theorem QQ {W : World} {H : Type} {enc : TypeId × Value → H} {sp : Nat → Bool} {base : Nat} {held : Bool} {t : TypeId} {ts : List TypeId} {vs : List Value} {ds : List (DataW H)} {p : List MemPlace} (h : DataW.TrodAll enc Tryz.prog W base sp held (t :: ts) vs ds p) :
    ∃ v vs' d ds' p0 q, vs = v :: vs' ∧ ds = d :: ds' ∧ DataW.Trod enc Tryz.prog W base sp held t v d p0 ∧ DataW.TrodAll enc Tryz.prog W base sp held ts vs' ds' q ∧ p = p0 ++ q := by
  cases vs with
  | nil => cases ds <;> exact h.elim
  | cons v vs =>
    cases ds with
    | nil => exact h.elim
    | cons d ds =>
      obtain ⟨p0, q, h1, h2, h3⟩ := h
      exact ⟨v, vs, d, ds, p0, q, rfl, rfl, h1, h2, h3⟩
theorem trodAll_nil {W : World} {H : Type} {enc : TypeId × Value → H} {sp : Nat → Bool} {base : Nat} {held : Bool} {vs : List Value} {ds : List (DataW H)} {p : List MemPlace} (h : DataW.TrodAll enc Tryz.prog W base sp held [] vs ds p) : vs = [] ∧ ds = [] ∧ p = [] := by
  cases vs with
  | nil => cases ds with
    | nil => exact ⟨rfl, rfl, h⟩
    | cons d ds => exact h.elim
  | cons v vs => cases ds <;> exact h.elim
theorem args3_open {W : World} {H : Type} {enc : TypeId × Value → H} {args : Array Value} {ds : List (DataW H)} {p : List MemPlace} {t0 t1 t2 : TypeId} (hA : DataW.TrodAll enc Tryz.prog W 0 (fun _ => true) true [t0, t1, t2] args.toList ds p) :
    ∃ v0 v1 v2 d0 d1 d2 p0 p1 p2, args = #[v0, v1, v2] ∧ ds = [d0, d1, d2] ∧ DataW.Trod enc Tryz.prog W 0 (fun _ => true) true t0 v0 d0 p0 ∧ DataW.Trod enc Tryz.prog W 0 (fun _ => true) true t1 v1 d1 p1 ∧ DataW.Trod enc Tryz.prog W 0 (fun _ => true) true t2 v2 d2 p2 ∧ p = p0 ++ (p1 ++ (p2 ++ [])) := by
  obtain ⟨l⟩ := args
  obtain ⟨v0, l1, d0, s1, p0, r0, a0, b0, h0, hA, e0⟩ := QQ hA
  obtain ⟨v1, l2, d1, s2, p1, r1, a1, b1, h1, hA, e1⟩ := QQ hA
  obtain ⟨v2, l3, d2, s3, p2, r2, a2, b2, h2, hA, e2⟩ := QQ hA
  obtain ⟨a3, b3, e3⟩ := trodAll_nil hA
  refine ⟨v0, v1, v2, d0, d1, d2, p0, p1, p2, congrArg List.toArray (show l = _ by rw [← a3, ← a2, ← a1]; exact a0), by rw [b0, b1, b2, b3], h0, h1, h2, by rw [e0, e1, e2, e3]⟩
theorem acts_of {W : World} {R : Res} {H : Type} {enc : TypeId × Value → H} {base : Nat} {v : Value} {d : DataW H} {p : List MemPlace} (hall : ∀ i o, W.heap[i]? = some o → (i, o) ∈ R.flatten) (hv : Value.okWide Tryz.prog W .any base 22 v)
    (h : DataW.Trod enc Tryz.prog W 0 (fun _ => true) true 22 v d p) : ∃ (q : Option Addr) (c : Nat) (acts : List WL), v = .slice q acts.length c ∧ Ja R q c acts ∧ (acts.length : Int) ≤ 9223372036854775807 := by
  obtain ⟨a0, len0, cap0, rfl⟩ := okWide_slice (e := 25) (by kernel_rfl) hv
  obtain ⟨f, hf⟩ := h
  obtain ⟨qa, ca, acts, hcs0, hacts, hlen⟩ := acts_open hall hf
  simp only [Value.cells, List.cons.injEq, Value.slice.injEq, and_true] at hcs0
  obtain ⟨rfl, rfl, rfl⟩ := hcs0
  exact ⟨_, _, acts, rfl, hacts, hlen⟩
theorem act_of {W : World} {R : Res} {H : Type} {enc : TypeId × Value → H} {base : Nat} {v : Value} {d : DataW H} {p : List MemPlace} (hall : ∀ i o, W.heap[i]? = some o → (i, o) ∈ R.flatten) (hv : Value.okWide Tryz.prog W .any base 25 v)
    (h : DataW.Trod enc Tryz.prog W 0 (fun _ => true) true 25 v d p) : ∃ a : WL, v = .agg (Zw a).toArray ∧ J1 R a := by
  obtain ⟨cs1, rfl, hsz1⟩ := okWide_struct Tryz.underlying25 hv
  obtain ⟨f, hf⟩ := h
  obtain ⟨a, hcs1, ha⟩ := X9 hall hf
  have e1 : cs1 = (Zw a).toArray := by
    obtain ⟨l⟩ := cs1
    exact congrArg List.toArray (show l = Zw a from hcs1)
  exact ⟨a, by rw [e1], ha⟩
theorem und3 : Tryz.prog.underlying 3 = some (.int .i64) := by kernel_rfl
theorem und4 : Tryz.prog.underlying 4 = some .bool := by kernel_rfl
theorem Zd {W W' : World} {H : Type} {enc : TypeId × Value → H} {t : TypeId} {v : Value} {d : DataW H} {p : List MemPlace} (hr : Tryz.prog.readableRec t = true) (ht : t < Tryz.prog.types.size) (h : DataW.Trod enc Tryz.prog W 0 (fun _ => true) true t v d p)
    (hb : Below W.heap.size W W') (hlt : ∀ x ∈ p, x.block < W.heap.size) : DataW.Trod enc Tryz.prog W' 0 (fun b => decide (b < W.heap.size)) true t v d p := Below.trod laid_out hr ht h hb hlt
theorem VI : Tryz.prog.readableRec 22 = true ∧ 22 < Tryz.prog.types.size := ⟨by kernel_rfl, of_decide_eq_true (by kernel_rfl)⟩
theorem VH : Tryz.prog.readableRec 25 = true ∧ 25 < Tryz.prog.types.size := ⟨by kernel_rfl, of_decide_eq_true (by kernel_rfl)⟩
theorem rd3 : Tryz.prog.readableRec 3 = true ∧ 3 < Tryz.prog.types.size := ⟨by kernel_rfl, of_decide_eq_true (by kernel_rfl)⟩
theorem elsewhere_calls {H : Type} {enc : TypeId × Value → H} {W : World} {base : Nat} {args : Array Value} {ds gs : List (DataW H)} {before : List MemPlace}
    (hval0 : ∀ (j : Nat) t v, Tryz.f3.params[j]? = some t → args[j]? = some v → Value.okWide Tryz.prog W .any base t v)
    (hW : DataW.Whole enc Tryz.prog Tryz.f3.params.toList Rows.nodeElsewhereSpec.vars false W args.toList ds gs before) (hL : laidMetH Tryz.prog Ke W) :
    Calls Tryz.prog 3 args W fun e W' => ∃ v, e = .returned v ∧ Rows.nodeElsewhereSpec.post enc Tryz.prog Tryz.f3 false true false false W args v W' := by
  have hW' := hW
  obtain ⟨p, q, hA, hV, rfl, hfz, hnd⟩ := hW
  have hpar : Tryz.f3.params.toList = [22, 25, 3] := by rw [Tryz.params3]
  rw [hpar] at hA
  rw [Tryz.params3] at hval0
  obtain ⟨v0, v1, v2, d0, d1, d2, p0, p1, p2, rfl, rfl, h0, h1, h2, rfl⟩ := args3_open hA
  obtain ⟨rfl, rfl⟩ := trodVars_none hV
  obtain ⟨G, hG, hGr, hGat⟩ := glob_of_laid hL
  have hall : ∀ i o, W.heap[i]? = some o → (i, o) ∈ ([G, ZE 3 W] : Res).flatten := fun i o h => Xn hGr hGat h
  obtain ⟨qa, ca, acts, rfl, hacts, hlen⟩ := acts_of hall (hval0 0 22 v0 rfl rfl) h0
  obtain ⟨a, rfl, ha⟩ := act_of hall (hval0 1 25 v1 rfl rfl) h1
  obtain ⟨size, rfl, rfl, rfl, hsw⟩ := open_int und3 (hval0 2 3 v2 rfl rfl) h2
  have hsize := bounds_i64 hsw
  have hw := elsewhere_ok (w0 := { W with drawn := 0 }) (F := []) (shelfI rfl) shelfP G (ZE 3 W) hG qa ca acts hacts a ha size hlen hsize
  refine (hw.h W (own_all hGr hGat)).mono fun e W' ⟨v, L', he, ⟨hv, hL'⟩, ho⟩ => ?_
  subst hv; subst hL'
  have hb := below_all hGr hGat ho
  have hlt : ∀ x ∈ p0 ++ (p1 ++ ([] ++ [])), x.block < W.heap.size := fun x hx => hW'.lt x (by simpa using hx)
  refine ⟨_, he, ⟨_, _, _, [], p0 ++ (p1 ++ ([] ++ [])), [], hW', trodAll_mk1 (shut_bool und4 true), ?_, rfl, hb.frame _, fun h => by cases h⟩⟩
  rw [hpar]
  exact ⟨_, _, Zd VI.1 VI.2 h0 hb (fun x hx => hlt x (by simp [hx])), ⟨_, _, Zd VH.1 VH.2 h1 hb (fun x hx => hlt x (by simp [hx])), ⟨_, _, Zd rd3.1 rd3.2 h2 hb (fun x hx => by cases hx), rfl, rfl⟩, rfl⟩, rfl⟩
theorem elsewhere_lifted (os : Os) (started : os.Started) (H : Type) (enc : TypeId × Value → H) :
    ReturnsInHanded {} Tryz.checked os 3 .any (fun w args => (Rows.nodeElsewhereSpec.pre enc Tryz.prog Tryz.f3 [] false w args ∧ laidMetH Tryz.prog Ke w) ∧ sizedMet enc Tryz.prog Tryz.f3 (OpenSpec.ofChange Rows.nodeElsewhereSpec) false w args)
      (Rows.nodeElsewhereSpec.post enc Tryz.prog Tryz.f3 false true false false) := by
  refine returnsInHanded_of_change_and (C := Tryz.checked) (X := fun w _ => laidMetH Tryz.prog Ke w) (fun _ _ _ hh h => h.of_heap hh) own_knob started (by kernel_rfl) Tryz.func3
    (ChangeSpec.witness_shaped (enc := enc) (C := Tryz.checked) (os := os) (X := fun w _ => laidMetH Tryz.prog Ke w) false (World.doorLaid Tryz.prog 400 os) #[.slice none 0 0, .agg #[.int .i64 0, .int .i64 0, .int .i64 0, .slice none 0 0], .int .i64 0] 8 rfl (World.shaped_of_RefB (by kernel_rfl) (by kernel_rfl)) (by kernel_rfl) (by kernel_rfl) (by kernel_rfl) (door_met os _)) ?_
  intro W base args ds gs before hval0 hW _ _ hL _
  exact elsewhere_calls hval0 hW hL
theorem elsewhere_row : Rows.NodeElsewhereSaid :=
  OpenClaim.holds_of_wide 3 Tryz.f3 rfl rfl rfl rfl rfl rfl rfl ⟨rfl, rfl, rfl, rfl, rfl⟩ rfl rfl rfl rfl rfl (by kernel_rfl) Tryz.func3 (by kernel_rfl)
    (of_decide_eq_true (by kernel_rfl)) (by unfold Func.isWrapper; first | (rw [if_pos (by decide +kernel)]; kernel_rfl) | (rw [if_neg (by decide +kernel)]; exact ⟨rfl, rfl⟩))
    (fun os started H enc _ => elsewhere_lifted os started H enc)
theorem elsewhere_holds : Rows.NodeElsewhereCardSaid :=
  Claim7.holds_tied_plain_at .later [] [.data, .data, .data] true (true, "2c26ad9126d44e359378a4d7e32ef6c34f7e5eb91ab38820adcb41158b47475a") true
    elsewhere_row (fun _ h => by cases h) (by kernel_rfl) (fun _ h => by cases h) nodeElsewhere_row_tie rfl ⟨rfl, rfl⟩ (by kernel_rfl) rfl
    (fun f fn hf hfn => by
      obtain rfl : f = 3 := Option.some.inj ((show Tryz.prog.funcNamed "drumlin/drumlinlaw13.NodeElsewhere" = some 3 by kernel_rfl).symm.trans hf) |>.symm
      obtain rfl : fn = Tryz.f3 := (Option.some.inj (Tryz.func3.symm.trans hfn)).symm
      exact ⟨by kernel_rfl, fun j t ht => by
        rw [Tryz.params3] at ht
        have hm : t ∈ [22, 25, 3] := by simpa using Array.mem_of_getElem? ht
        have hall : ([22, 25, 3].all fun u => !Tryz.prog.wantsStandIn u) = true := by kernel_rfl
        exact (show Tryz.prog.wantsStandIn t = false by simpa using List.all_eq_true.1 hall t hm)⟩)
    (by kernel_rfl)
#print axioms elsewhere_holds
end Go.Proofs.YtjikpomndbkfgaaGreatDoor
