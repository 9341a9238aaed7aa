/- NodeFails: for every input that the statement's row lets in the law answers true and its arguments read as before; conditions: none beyond the row's own (part 6; joined, pruned and shortened by a program of the prover's own: names of two letters stand for longer ones.) -/
import Derived.Test.YtjikpomndbkfgaaGreatDoorFA5
import Derived.Deep.Slices
import Derived.OpenShut
import Derived.ProofKit
import Derived.Test.YtjikpomndbkfgaaGreatDoorRows
import Derived.LaidMore
import Derived.Stop.Joined
import Derived.Shelf.Sort.Plain
import Derived.Shelf.Slices.In.SortNone
import Derived.Shelf.SlIterI.Collect
import Derived.Shelf.SlSortCmp.NoneTotal
import Derived.Test.YtjikpomndbkfgaaGreatDoorCards
import Derived.Test.YtjikpomndbkfgaaGreatDoorTie
import Derived.SevenTiedAt
import Derived.DeepKeys4
set_option linter.all false
set_option linter.unusedVariables false
set_option linter.unusedSimpArgs false
set_option linter.unusedSectionVars false
namespace Go.Proofs.YtjikpomndbkfgaaGreatDoor
open Go Go.Sx Go.Nd
set_option maxRecDepth 10000
def j8 (i : Int) (k : Int × Int) : Prop := (k = (4, 0) ∧ (zF i).1 = 5) ∨ zF i = k
def ZI (W : RS) (H : Int → Prop) (k : Int × Int) : Prop := ∃ i, InB i ∧ (W.all i).has = true ∧ ¬ H i ∧ j8 i k
def yY (W : RS) (H : Int → Prop) (S : Int × Int → Prop) (k : Int × Int) : Prop := (k.1 = 1 ∧ H k.2) ∨ (k.1 ≠ 1 ∧ k.1 ≠ 2 ∧ S k ∧ ¬ ZI W H k)
def WW (H : Int → Prop) (k : Int × Int) : Prop := ∃ i, H i ∧ (k = (2, 0) ∨ j8 i k)
structure TS (W : RS) (H : Int → Prop) (S : Int × Int → Prop) (w : Int × Int → Int) (s : Int × Int → Prop) (g : List Int) : Prop where
  w0 : ∀ k, wC k → yY W H S k → w k = 0
  w1 : ∀ k, wC k → ¬ yY W H S k → w k = qy W k
  s : ∀ k, wC k → k.1 ≠ 1 → (s k ↔ ¬ yY W H S k ∧ (zG W k = true ∨ WW H k))
  gn : g.Nodup
  gm : ∀ a, a ∈ g ↔ (a ∈ W.gone ∨ ∃ k, wC k ∧ yY W H S k ∧ qy W k = a ∧ a ≠ 0)
theorem xe {W : RS} {H : Int → Prop} {S : Int × Int → Prop} {i : Int} : yY W H S (1, i) ↔ H i := by
  unfold yY
  constructor
  · rintro (h | h)
    · exact h.2
    · exact absurd rfl h.1
  · intro h; exact .inl ⟨rfl, h⟩
theorem jn {W : RS} {H : Int → Prop} {S : Int × Int → Prop} {k : Int × Int} (h1 : k.1 ≠ 1) : yY W H S k ↔ (k.1 ≠ 2 ∧ S k ∧ ¬ ZI W H k) := by
  unfold yY
  constructor
  · rintro (h | h)
    · exact absurd h.1 h1
    · exact h.2
  · intro h; exact .inr ⟨h1, h⟩
theorem YB {g : List Int} {a : Int} (h : g.Nodup) (ha : a ∉ g) : (g ++ [a]).Nodup := by
  rw [List.nodup_append]
  exact ⟨h, by simp, fun x hx y hy e => by rw [List.mem_singleton] at hy; exact ha (by rw [← hy, ← e]; exact hx)⟩
section
variable {W : RS} {D : Int → Option Sec} {nx : Int} {H : Int → Prop} {S : Int × Int → Prop} {w w' : Int × Int → Int} {s s' : Int × Int → Prop} {g g' : List Int}
theorem TS.fresh (hI : Inv W D nx) (hT : TS W H S w s g) {k : Int × Int} (hk : wC k) (hn : ¬ yY W H S k) (h0 : w k ≠ 0) : w k ∉ g := by
  rw [hT.w1 k hk hn] at h0 ⊢
  intro hm
  rcases (hT.gm _).1 hm with h | ⟨q, hq, hl, e, -⟩
  · exact hI.gdj _ h k hk rfl
  · exact hn ((hI.inj k q hk hq h0 e.symm) ▸ hl)
theorem Jh {i : Int} {k : Int × Int} (hu : ¬ j8 i k) : ZI W (fun j => H j ∨ j = i) k ↔ ZI W H k := by
  unfold ZI
  constructor
  · rintro ⟨j, h1, h2, h3, h4⟩; exact ⟨j, h1, h2, fun h => h3 (.inl h), h4⟩
  · rintro ⟨j, h1, h2, h3, h4⟩; exact ⟨j, h1, h2, fun h => h.elim h3 (fun e => hu (e ▸ h4)), h4⟩
theorem TS.hole (hI : Inv W D nx) (hT : TS W H S w s g) {i : Int} (hi : InB i) (hn : ¬ H i) (hS : ∀ p, wC p → p.1 ≠ 1 → p.1 ≠ 2 → S p → ¬ j8 i p)
    (hw : ∀ k, wC k → w' k = if k = (1, i) then 0 else w k) (hs : ∀ k, wC k → k.1 ≠ 1 → (s' k ↔ s k ∨ k = (2, 0) ∨ j8 i k)) (hg : g' = if w (1, i) ≠ 0 then g ++ [w (1, i)] else g) :
    TS W (fun j => H j ∨ j = i) S w' s' g' := by
  have hl : ∀ k, wC k → k.1 ≠ 1 → (yY W (fun j => H j ∨ j = i) S k ↔ yY W H S k) := by
    intro k hk h1
    rw [jn h1, jn h1]
    constructor
    · rintro ⟨h2, h3, h4⟩; exact ⟨h2, h3, fun h => h4 ((Jh (hS k hk h1 h2 h3)).2 h)⟩
    · rintro ⟨h2, h3, h4⟩; exact ⟨h2, h3, fun h => h4 ((Jh (hS k hk h1 h2 h3)).1 h)⟩
  have hlb : ∀ j, yY W (fun j => H j ∨ j = i) S (1, j) ↔ (yY W H S (1, j) ∨ j = i) := fun j => by rw [xe, xe]
  have hni : ¬ yY W H S (1, i) := fun h => hn (xe.1 h)
  refine ⟨fun k hk h => ?_, fun k hk h => ?_, fun k hk h1 => ?_, ?_, fun a => ?_⟩
  · rw [hw k hk]
    by_cases e : k = (1, i)
    · rw [if_pos e]
    · rw [if_neg e]
      refine hT.w0 k hk ?_
      by_cases h1 : k.1 = 1
      · obtain ⟨k1, k2⟩ := k
        obtain rfl : k1 = 1 := h1
        exact ((hlb k2).1 h).resolve_right (fun e2 => e (by rw [e2]))
      · exact (hl k hk h1).1 h
  · rw [hw k hk]
    by_cases e : k = (1, i)
    · exact absurd (by rw [e]; exact (hlb i).2 (.inr rfl)) h
    · rw [if_neg e]
      refine hT.w1 k hk (fun h2 => h ?_)
      by_cases h1 : k.1 = 1
      · obtain ⟨k1, k2⟩ := k
        obtain rfl : k1 = 1 := h1
        exact (hlb k2).2 (.inl h2)
      · exact (hl k hk h1).2 h2
  · rw [hs k hk h1, hT.s k hk h1, hl k hk h1]
    have hm : WW (fun j => H j ∨ j = i) k ↔ (WW H k ∨ k = (2, 0) ∨ j8 i k) := by
      unfold WW
      constructor
      · rintro ⟨j, h | rfl, h2⟩
        · exact .inl ⟨j, h, h2⟩
        · exact .inr h2
      · rintro (⟨j, h, h2⟩ | h2)
        · exact ⟨j, .inl h, h2⟩
        · exact ⟨i, .inr rfl, h2⟩
    rw [hm]
    constructor
    · rintro (⟨h2, h3⟩ | h2)
      · exact ⟨h2, h3.imp id .inl⟩
      · refine ⟨fun h3 => ?_, .inr (.inr h2)⟩
        have h4 := (jn h1).1 h3
        rcases h2 with e | hu
        · exact h4.1 (by rw [e])
        · exact hS k hk h1 h4.1 h4.2.1 hu
    · rintro ⟨h2, h3 | h3 | h3⟩
      · exact .inl ⟨h2, .inl h3⟩
      · exact .inl ⟨h2, .inr h3⟩
      · exact .inr h3
  · rw [hg]; split
    · rename_i h0; exact YB hT.gn (hT.fresh hI (yH hi) hni h0)
    · exact hT.gn
  · have hwi := hT.w1 (1, i) (yH hi) hni
    have e1 : a ∈ g' ↔ (a ∈ g ∨ (a = qy W (1, i) ∧ a ≠ 0)) := by
      rw [hg, hwi]
      by_cases h0 : qy W (1, i) ≠ 0
      · rw [if_pos h0, List.mem_append, List.mem_singleton]
        constructor
        · rintro (h | h)
          · exact .inl h
          · exact .inr ⟨h, h ▸ h0⟩
        · rintro (h | h)
          · exact .inl h
          · exact .inr h.1
      · rw [if_neg h0]
        constructor
        · exact .inl
        · rintro (h | h)
          · exact h
          · exact absurd h.1.symm (fun e => h0 (by rw [e]; exact h.2))
    rw [e1, hT.gm a]
    constructor
    · rintro ((h | ⟨k, hk, hlk, e, h0⟩) | ⟨e, h0⟩)
      · exact .inl h
      · refine .inr ⟨k, hk, ?_, e, h0⟩
        by_cases h1 : k.1 = 1
        · obtain ⟨k1, k2⟩ := k
          obtain rfl : k1 = 1 := h1
          exact (hlb k2).2 (.inl hlk)
        · exact (hl k hk h1).2 hlk
      · exact .inr ⟨(1, i), yH hi, (hlb i).2 (.inr rfl), e.symm, h0⟩
    · rintro (h | ⟨k, hk, hlk, e, h0⟩)
      · exact .inl (.inl h)
      · by_cases h1 : k.1 = 1
        · obtain ⟨k1, k2⟩ := k
          obtain rfl : k1 = 1 := h1
          rcases (hlb k2).1 hlk with h | rfl
          · exact .inl (.inr ⟨_, hk, h, e, h0⟩)
          · exact .inr ⟨e.symm, h0⟩
        · exact .inl (.inr ⟨k, hk, (hl k hk h1).1 hlk, e, h0⟩)
theorem TS.sets (hT : TS W H S w s g) {S' : Int × Int → Prop} (h : ∀ k, wC k → (yY W H S' k ↔ yY W H S k)) : TS W H S' w s g := by
  refine ⟨fun k hk hl => hT.w0 k hk ((h k hk).1 hl), fun k hk hl => hT.w1 k hk (fun e => hl ((h k hk).2 e)), fun k hk h1 => by rw [hT.s k hk h1, h k hk], hT.gn, fun a => ?_⟩
  rw [hT.gm a]
  refine or_congr Iff.rfl ⟨?_, ?_⟩
  · rintro ⟨k, hk, hl, e⟩; exact ⟨k, hk, (h k hk).2 hl, e⟩
  · rintro ⟨k, hk, hl, e⟩; exact ⟨k, hk, (h k hk).1 hl, e⟩
theorem TS.keep (hT : TS W H S w s g) {q : Int × Int} (hq : ZI W H q) : TS W H (fun k => S k ∨ k = q) w s g := by
  refine hT.sets fun k hk => ?_
  unfold yY
  refine or_congr Iff.rfl ⟨?_, ?_⟩
  · rintro ⟨h1, h2, h3 | h3, h4⟩
    · exact ⟨h1, h2, h3, h4⟩
    · exact absurd (h3 ▸ hq) h4
  · rintro ⟨h1, h2, h3, h4⟩; exact ⟨h1, h2, .inl h3, h4⟩
theorem TS.drop (hT : TS W H S w s g) {P : Int × Int → Prop} (hq : ∀ q, P q → ZI W H q) : TS W H (fun k => S k ∧ ¬ P k) w s g := by
  refine hT.sets fun k hk => ?_
  unfold yY
  refine or_congr Iff.rfl ⟨?_, ?_⟩
  · rintro ⟨h1, h2, h3, h4⟩; exact ⟨h1, h2, h3.1, h4⟩
  · rintro ⟨h1, h2, h3, h4⟩; exact ⟨h1, h2, ⟨h3, fun h => h4 (hq k h)⟩, h4⟩
theorem TS.lose (hI : Inv W D nx) (hT : TS W H S w s g) {q : Int × Int} (hq : wC q) (hq1 : q.1 ≠ 1) (hq2 : q.1 ≠ 2) (hnk : ¬ ZI W H q)
    (hw : ∀ k, wC k → w' k = if k = q then 0 else w k) (hs : ∀ k, wC k → k.1 ≠ 1 → (s' k ↔ s k ∧ k ≠ q)) (hg : g' = if w q ≠ 0 then g ++ [w q] else g) :
    TS W H (fun k => S k ∨ k = q) w' s' g' := by
  have hl : ∀ k, wC k → (yY W H (fun k => S k ∨ k = q) k ↔ (yY W H S k ∨ k = q)) := by
    intro k hk
    unfold yY
    constructor
    · rintro (h | ⟨h1, h2, h3 | h3, h4⟩)
      · exact .inl (.inl h)
      · exact .inl (.inr ⟨h1, h2, h3, h4⟩)
      · exact .inr h3
    · rintro ((h | ⟨h1, h2, h3, h4⟩) | h)
      · exact .inl h
      · exact .inr ⟨h1, h2, .inl h3, h4⟩
      · subst h; exact .inr ⟨hq1, hq2, .inr rfl, hnk⟩
  refine ⟨fun k hk h => ?_, fun k hk h => ?_, fun k hk h1 => ?_, ?_, fun a => ?_⟩
  · rw [hw k hk]; split
    · rfl
    · rename_i e; exact hT.w0 k hk (((hl k hk).1 h).resolve_right e)
  · rw [hw k hk, if_neg (fun e => h ((hl k hk).2 (.inr e)))]
    exact hT.w1 k hk (fun e => h ((hl k hk).2 (.inl e)))
  · rw [hs k hk h1, hT.s k hk h1, hl k hk]
    constructor
    · rintro ⟨⟨h2, h3⟩, h4⟩; exact ⟨fun h => h.elim h2 h4, h3⟩
    · rintro ⟨h2, h3⟩; exact ⟨⟨fun h => h2 (.inl h), h3⟩, fun h => h2 (.inr h)⟩
  · rw [hg]; split
    · rename_i h0; exact YB hT.gn (hT.fresh hI hq (fun h => h0 (hT.w0 q hq h)) h0)
    · exact hT.gn
  · have e1 : a ∈ g' ↔ (a ∈ g ∨ (a = w q ∧ a ≠ 0)) := by
      rw [hg]
      by_cases h0 : w q ≠ 0
      · rw [if_pos h0, List.mem_append, List.mem_singleton]
        constructor
        · rintro (h | h)
          · exact .inl h
          · exact .inr ⟨h, h ▸ h0⟩
        · rintro (h | h)
          · exact .inl h
          · exact .inr h.1
      · rw [if_neg h0]
        constructor
        · exact .inl
        · rintro (h | h)
          · exact h
          · exact absurd h.1.symm (fun e => h0 (by rw [e]; exact h.2))
    rw [e1, hT.gm a]
    constructor
    · rintro ((h | ⟨k, hk, hlk, e, h0⟩) | ⟨e, h0⟩)
      · exact .inl h
      · exact .inr ⟨k, hk, (hl k hk).2 (.inl hlk), e, h0⟩
      · have hn : ¬ yY W H S q := fun h => h0 (e.trans (hT.w0 q hq h))
        exact .inr ⟨q, hq, (hl q hq).2 (.inr rfl), by rw [e, hT.w1 q hq hn], h0⟩
    · rintro (h | ⟨k, hk, hlk, e, h0⟩)
      · exact .inl (.inl h)
      · by_cases hl2 : yY W H S k
        · exact .inl (.inr ⟨k, hk, hl2, e, h0⟩)
        · have := ((hl k hk).1 hlk).resolve_left hl2
          subst this
          exact .inr ⟨by rw [hT.w1 _ hk hl2]; exact e.symm, h0⟩
end
structure TR (W X : RS) (H : Int → Prop) (S : Int × Int → Prop) : Prop where
  ts : TS W H S (qy X) (fun k => zG X k = true) X.gone
  b0 : ∀ i, InB i → H i → X.all i = Blk.zero
  b1 : ∀ i, InB i → ¬ H i → X.all i = W.all i
  num : X.num = W.num
  ver : X.ver = W.ver
  kind : X.kind = W.kind
  size : X.size = W.size
  time : X.time = W.time
structure TN (n m : NS) (W : RS) (H : Int → Prop) (S : Int × Int → Prop) : Prop where
  ts : TS W H S (fun k => (m.at_ k).getD 0) (fun k => m.stale k ≠ none) m.gone
  d0 : ∀ i, InB i → H i → m.data i = none
  d1 : ∀ i, InB i → ¬ H i → m.data i = n.data i
  st1 : ∀ i, m.stale (1, i) = none
  ok : NOk m
  num : m.num = n.num
  ver : m.ver = n.ver
  kind : m.kind = n.kind
  size : m.size = n.size
  time : m.time = n.time
theorem Qj (j : Nat) : Sec.zero.l.getD j 0 = 0 := by
  show (List.replicate 128 (0 : Int)).getD j 0 = 0
  rw [List.getD_eq_getElem?_getD, List.getElem?_replicate]; split <;> rfl
def kz : Int × Int → Prop := fun _ => True
theorem tr_cpl {n m : NS} {W X : RS} {H : Int → Prop} {S : Int × Int → Prop} (h : Cpl n W) (hn : TN n m W H S) (hr : TR W X H S) : Cpl m X := by
  refine ⟨hn.num.trans (h.num.trans hr.num.symm), hn.ver.trans (h.ver.trans hr.ver.symm), hn.kind.trans (h.kind.trans hr.kind.symm), hn.size.trans (h.size.trans hr.size.symm), hn.time.trans (h.time.trans hr.time.symm), fun k hk => ?_, fun i hi => ?_, fun k hk h1 => ?_, hn.st1, ?_, hn.ok⟩
  · by_cases hl : yY W H S k
    · rw [hr.ts.w0 k hk hl]; exact hn.ts.w0 k hk hl
    · rw [hr.ts.w1 k hk hl]; exact hn.ts.w1 k hk hl
  · by_cases hh : H i
    · rw [hn.d0 i hi hh, hr.b0 i hi hh]; rfl
    · rw [hn.d1 i hi hh, hr.b1 i hi hh]; exact h.data i hi
  · exact (hn.ts.s k hk h1).trans (hr.ts.s k hk h1).symm
  · exact (List.perm_ext_iff_of_nodup hn.ts.gn hr.ts.gn).2 fun a => (hn.ts.gm a).trans (hr.ts.gm a).symm
section
variable {W X : RS} {D : Int → Option Sec} {nx : Int} {H : Int → Prop}
theorem VQ {i j : Int} : j8 i (5, j) ↔ zF i = (5, j) := by
  unfold j8
  constructor
  · rintro (h | h)
    · exact absurd h.1 (by simp)
    · exact h
  · exact .inr
theorem KT {i j : Int} (h : j8 i (5, j)) : j8 i (4, 0) := .inl ⟨rfl, by rw [VQ.1 h]⟩
theorem XB (hr : TR W X H kz) (k : Int × Int) : jp X k ↔ ZI W H k := by
  constructor
  · rintro ⟨i, hi, hh, hu⟩
    by_cases hH : H i
    · rw [hr.b0 i hi hH] at hh; cases hh
    · rw [hr.b1 i hi hH] at hh; exact ⟨i, hi, hh, hH, hu⟩
  · rintro ⟨i, hi, hh, hH, hu⟩
    exact ⟨i, hi, by rw [hr.b1 i hi hH]; exact hh, hu⟩
theorem Q6 (hI : Inv W D nx) {k : Int × Int} (hk : wC k) (h1 : k.1 ≠ 1) (h2 : k.1 ≠ 2) (hl : yY W H kz k) (hh : qy W k ≠ 0 ∨ zG W k = true) : ∃ i, H i ∧ j8 i k := by
  obtain ⟨i, hi, hb, hu⟩ := hI.kid k hk h1 h2 hh
  have := (jn h1).1 hl
  by_cases hH : H i
  · exact ⟨i, hH, hu⟩
  · exact absurd ⟨i, hi, hb, hH, hu⟩ this.2.2
theorem WS (hr : TR W X H kz) {k : Int × Int} (hk : wC k) (h1 : k.1 ≠ 1) (hl : ¬ yY W H kz k) (h : zG W k = true ∨ WW H k) : zG X k = true := (hr.ts.s k hk h1).2 ⟨hl, h⟩
theorem WF : ¬ yY W H kz (2, 0) := fun h => ((jn (by decide)).1 h).1 rfl
theorem MB (hI : Inv W D nx) (hr : TR W X H kz) (h : chL W) : chL X ∨ WW H (4, 0) := by
  obtain ⟨j, h0, h1, hc⟩ := h
  rcases hc with hs | ⟨i, hi, hf, ha⟩
  · by_cases hl : yY W H kz (5, j)
    · obtain ⟨i, hH, hu⟩ := Q6 hI (yF ⟨h0, h1⟩) (by simp) (by simp) hl (.inr hs)
      exact .inr ⟨i, hH, .inr (KT hu)⟩
    · exact .inl ⟨j, h0, h1, .inl (WS hr (yF ⟨h0, h1⟩) (by simp) hl (.inl hs))⟩
  · by_cases hH : H i
    · exact .inr ⟨i, hH, .inr (.inl ⟨rfl, by rw [ha]⟩)⟩
    · exact .inl ⟨j, h0, h1, .inr ⟨i, hi, by rw [hr.b1 i hi hH]; exact hf, ha⟩⟩
theorem XA (hI : Inv W D nx) (hr : TR W X H kz) {k : Int × Int} (hk : wC k) (hl : ¬ yY W H kz k) (h : prR W k ∨ (k.1 ≠ 1 ∧ WW H k)) : prR X k := by
  have hch : ∀ q, wC q → q.1 ≠ 1 → ¬ yY W H kz q → chB W q ∨ WW H q → chB X q := by
    rintro q hq h1 hlq ((hs | ⟨i, hi, hf, ha⟩) | hm)
    · exact .inl (WS hr hq h1 hlq (.inl hs))
    · by_cases hH : H i
      · exact .inl (WS hr hq h1 hlq (.inr ⟨i, hH, .inr (.inr ha)⟩))
      · exact .inr ⟨i, hi, by rw [hr.b1 i hi hH]; exact hf, ha⟩
    · exact .inl (WS hr hq h1 hlq (.inr hm))
  have hkid : k.1 ≠ 1 → k.1 ≠ 2 → jp X k := fun h1 h2 => (XB hr k).2 (Classical.byContradiction fun e => hl ((jn h1).2 ⟨h2, trivial, e⟩))
  rcases wT hk with ⟨i, hi, rfl⟩ | rfl | rfl | rfl | ⟨j, hj, rfl⟩
  · have hH : ¬ H i := fun e => hl (xe.2 e)
    rw [jN, hr.b1 i hi hH]
    rcases h with h | h
    · exact jN.1 h
    · exact absurd rfl h.1
  · have hmk : WW H (2, 0) → prR X (2, 0) := fun hm => Zp (WS hr yN (by decide) WF (.inr hm))
    rcases h with h | h
    · have h' := h
      unfold prR at h'
      rw [if_neg (by decide), if_neg (by decide), if_neg (by decide), if_neg (by decide)] at h'
      have hX : ((∃ i, InB i ∧ (X.all i).fresh = true) ∨ zG X (2, 0) = true ∨ zG X (3, 0) = true ∨ zG X (4, 0) = true ∨ chL X) → prR X (2, 0) := fun e => by
        unfold prR; rw [if_neg (by decide), if_neg (by decide), if_neg (by decide), if_neg (by decide)]; exact e
      have m24 : WW H (4, 0) → WW H (2, 0) := fun ⟨i, hi, _⟩ => ⟨i, hi, .inl rfl⟩
      rcases h' with ⟨i, hi, hf⟩ | hs | hs | hs | hc
      · by_cases hH : H i
        · exact hmk ⟨i, hH, .inl rfl⟩
        · exact hX (.inl ⟨i, hi, by rw [hr.b1 i hi hH]; exact hf⟩)
      · exact hX (.inr (.inl (WS hr yN (by decide) WF (.inl hs))))
      · by_cases hl3 : yY W H kz (3, 0)
        · obtain ⟨i, hH, -⟩ := Q6 hI zl (by decide) (by decide) hl3 (.inr hs)
          exact hmk ⟨i, hH, .inl rfl⟩
        · exact hX (.inr (.inr (.inl (WS hr zl (by decide) hl3 (.inl hs)))))
      · by_cases hl4 : yY W H kz (4, 0)
        · obtain ⟨i, hH, -⟩ := Q6 hI zp (by decide) (by decide) hl4 (.inr hs)
          exact hmk ⟨i, hH, .inl rfl⟩
        · exact hX (.inr (.inr (.inr (.inl (WS hr zp (by decide) hl4 (.inl hs))))))
      · rcases MB hI hr hc with hc | hm
        · exact hX (.inr (.inr (.inr (.inr hc))))
        · exact hmk (m24 hm)
    · exact hmk h.2
  · unfold prR; rw [if_neg (by decide), if_neg (by decide), if_pos rfl]
    refine ⟨hch _ zl (by decide) hl ?_, hkid (by decide) (by decide)⟩
    rcases h with h | h
    · unfold prR at h; rw [if_neg (by decide), if_neg (by decide), if_pos rfl] at h; exact .inl h.1
    · exact .inr h.2
  · unfold prR; rw [if_neg (by decide), if_neg (by decide), if_neg (by decide), if_pos rfl]
    refine ⟨?_, hkid (by decide) (by decide)⟩
    rcases h with h | h
    · unfold prR at h; rw [if_neg (by decide), if_neg (by decide), if_neg (by decide), if_pos rfl] at h
      rcases h.1 with hs | hc
      · exact .inl (WS hr zp (by decide) hl (.inl hs))
      · rcases MB hI hr hc with hc | hm
        · exact .inr hc
        · exact .inl (WS hr zp (by decide) hl (.inr hm))
    · exact .inl (WS hr zp (by decide) hl (.inr h.2))
  · unfold prR; rw [if_neg (by simp), if_pos rfl]
    refine ⟨hch _ (yF hj) (by simp) hl ?_, hkid (by simp) (by simp)⟩
    rcases h with h | h
    · unfold prR at h; rw [if_neg (by simp), if_pos rfl] at h; exact .inl h.1
    · exact .inr h.2
theorem tr_inv (hI : Inv W D nx) (hHi : ∀ i, H i → InB i) (hr : TR W X H kz) : Inv X D nx := by
  have hw0 := hr.ts.w0
  have hw1 := hr.ts.w1
  have hnl : ∀ k, wC k → qy X k ≠ 0 → ¬ yY W H kz k := fun k hk h hl => h (hw0 k hk hl)
  have hwX : ∀ k, wC k → qy X k ≠ 0 → qy X k = qy W k := fun k hk h => hw1 k hk (hnl k hk h)
  refine ⟨?_, ?_, ?_, ?_, ?_, ?_, ?_, hr.ts.gn, ?_, ?_, ?_, ?_, ?_, ?_, ?_, ?_, ?_, ?_, hI.nx⟩
  · intro i hi
    by_cases hH : H i
    · rw [hr.b0 i hi hH]; simp [Blk.zero]
    · rw [hr.b1 i hi hH]; exact hI.has i hi
  · intro i hi hh
    by_cases hH : H i
    · rw [hr.b0 i hi hH]; rfl
    · rw [hr.b1 i hi hH] at hh ⊢; exact hI.hole i hi hh
  · intro k hk h1 h2 h
    rw [XB hr]
    have hl : ¬ yY W H kz k := by
      rcases h with h | h
      · exact hnl k hk h
      · exact ((hr.ts.s k hk h1).1 h).1
    exact Classical.byContradiction fun e => hl ((jn h1).2 ⟨h2, trivial, e⟩)
  · intro k hk h1 hkid
    have hl : ¬ yY W H kz k := fun hl => by
      have := (jn h1).1 hl
      exact this.2.2 ((XB hr k).1 (hkid this.1))
    rw [hw1 k hk hl]
    refine (hI.place k hk h1 (fun h2 => ?_)).imp id (fun h => XA hI hr hk hl (.inl h))
    obtain ⟨i, hi, hb, -, hu⟩ := (XB hr k).1 (hkid h2)
    exact ⟨i, hi, hb, hu⟩
  · intro k hk h; have e := hwX k hk h; rw [e] at h ⊢; exact hI.rngA k hk h
  · intro a ha
    rcases (hr.ts.gm a).1 ha with h | ⟨k, hk, -, e, h0⟩
    · exact hI.rngG a h
    · have := hI.rngA k hk (by rw [e]; exact h0); rw [e] at this; exact this
  · intro k q hk hq h e
    have h2 : qy X q ≠ 0 := by rw [← e]; exact h
    have e1 := hwX k hk h
    have e2 := hwX q hq h2
    rw [e1] at h e
    rw [e2] at e
    exact hI.inj k q hk hq h e
  · intro a ha k hk e
    have h0 : a ≠ 0 := by
      rcases (hr.ts.gm a).1 ha with h | ⟨q, -, -, -, h0⟩
      · have := hI.rngG a h; omega
      · exact h0
    have hx : qy X k ≠ 0 := by rw [e]; exact h0
    have hwk := hwX k hk hx
    rcases (hr.ts.gm a).1 ha with h | ⟨q, hq, hl, eq, -⟩
    · exact hI.gdj a h k hk (by rw [← hwk, e])
    · have : q = k := hI.inj q k hq hk (by rw [eq]; exact h0) (by rw [eq, ← hwk, e])
      exact hnl k hk hx (this ▸ hl)
  · intro k hk h0 hnp
    have hl := hnl k hk h0
    have hnpW : ¬ prR W k := fun e => hnp (XA hI hr hk hl (.inl e))
    have hnm : k.1 ≠ 1 → ¬ WW H k := fun h1 hm => hnp (XA hI hr hk hl (.inr ⟨h1, hm⟩))
    have hwk := hwX k hk h0
    rw [hwk, hI.disk k hk (by rw [← hwk]; exact h0) hnpW]
    congr 1
    have hblk : ∀ i, InB i → ¬ H i → qy X (1, i) = qy W (1, i) := fun i hi hH => hw1 _ (yH hi) (fun e => hH (xe.1 e))
    rcases wT hk with ⟨i, hi, rfl⟩ | rfl | rfl | rfl | ⟨j, hj, rfl⟩
    · rw [yg, yg, hr.b1 i hi (fun e => hl (xe.2 e))]
    · have hH : ∀ i, ¬ H i := fun i e => hnm (by decide) ⟨i, e, .inl rfl⟩
      refine (xt (fun q hq => ?_) hr.num hr.ver hr.kind hr.size hr.time).symm
      by_cases hlq : yY W H kz q
      · rw [hw0 q hq hlq]
        refine Classical.byContradiction fun e => ?_
        by_cases q1 : q.1 = 1
        · rcases hlq with h | h
          · exact hH _ h.2
          · exact h.1 q1
        · obtain ⟨i, hi, -⟩ := Q6 hI hq q1 ((jn q1).1 hlq).1 hlq (.inl (fun e2 => e e2.symm))
          exact hH i hi
      · exact hw1 q hq hlq
    · have : y6 X (zV 1 0) = y6 W (zV 1 0) := by
        unfold y6
        refine List.map_congr_left fun j hj => ?_
        have hj := List.mem_range.1 hj
        unfold zV
        rw [if_neg (by decide), if_pos rfl]
        refine hblk _ ⟨by omega, by omega⟩ (fun e => hnm (by decide) ⟨_, e, .inr (.inr (Wy.2 (by unfold wW; rw [if_neg (by omega), if_neg (by omega), if_pos (by omega)])))⟩)
      unfold zB
      rw [if_neg (by decide), if_neg (by decide), if_pos rfl, if_neg (by decide), if_neg (by decide), if_pos rfl, this]
    · have : y6 X (fun j => (5, j)) = y6 W (fun j => (5, j)) := by
        unfold y6
        refine List.map_congr_left fun j hj => ?_
        have hj := List.mem_range.1 hj
        by_cases hlq : yY W H kz (5, (j : Int))
        · rw [hw0 _ (xa j hj) hlq]
          refine Classical.byContradiction fun e => ?_
          obtain ⟨i, hi, hu⟩ := Q6 hI (xa j hj) (by simp) (by simp) hlq (.inl (fun e2 => e e2.symm))
          exact hnm (by decide) ⟨i, hi, .inr (KT hu)⟩
        · exact hw1 _ (xa j hj) hlq
      unfold zB
      rw [if_neg (by decide), if_neg (by decide), if_neg (by decide), if_pos rfl, if_neg (by decide), if_neg (by decide), if_neg (by decide), if_pos rfl, this]
    · have : y6 X (zV 2 j) = y6 W (zV 2 j) := by
        unfold y6
        refine List.map_congr_left fun m hm => ?_
        have hm := List.mem_range.1 hm
        unfold zV
        rw [if_neg (by decide), if_neg (by decide)]
        refine hblk _ ⟨by omega, by omega⟩ (fun e => hnm (by simp) ⟨_, e, .inr (VQ.2 (Wx.2 (by unfold wW; rw [if_neg (by omega), if_neg (by omega), if_neg (by omega), if_pos (by omega)]; exact ⟨rfl, by dsimp only; omega⟩)))⟩)
      unfold zB
      rw [if_neg (by simp), if_pos rfl, if_neg (by simp), if_pos rfl]
      exact congrArg ZM this.symm
  · intro a
    rw [hI.keys a, hr.ts.gm a]
    constructor
    · rintro (h | ⟨k, hk, e, h0⟩)
      · exact .inl (.inl h)
      · by_cases hl : yY W H kz k
        · exact .inl (.inr ⟨k, hk, hl, e, h0⟩)
        · exact .inr ⟨k, hk, by rw [hw1 k hk hl]; exact e, h0⟩
    · rintro ((h | ⟨k, hk, -, e, h0⟩) | ⟨k, hk, e, h0⟩)
      · exact .inl h
      · exact .inr ⟨k, hk, e, h0⟩
      · exact .inr ⟨k, hk, by rw [← hwX k hk (by rw [e]; exact h0)]; exact e, h0⟩
  · intro hg
    refine WS (k := (2, 0)) hr yN (by decide) WF ?_
    obtain ⟨a, ha⟩ := List.exists_mem_of_ne_nil _ hg
    rcases (hr.ts.gm a).1 ha with h | ⟨k, hk, hl, e, h0⟩
    · exact .inl (hI.gone (fun e => by rw [e] at h; cases h))
    · right
      by_cases k1 : k.1 = 1
      · rcases hl with hl | hl
        · exact ⟨k.2, hl.2, .inl rfl⟩
        · exact absurd k1 hl.1
      · obtain ⟨i, hi, -⟩ := Q6 hI hk k1 ((jn k1).1 hl).1 hl (.inl (by rw [e]; exact h0))
        exact ⟨i, hi, .inl rfl⟩
  · intro i hi j hj hle
    by_cases hH : H i
    · rw [hr.b0 i hi hH]; exact Qj j
    · rw [hr.b1 i hi hH]; rw [hr.size] at hle; exact hI.zero i hi j hj hle
  · rw [hr.num]; exact hI.num
  · rw [hr.ver]; exact hI.ver
  · rw [hr.kind]; exact hI.kind
  · rw [hr.size]; exact hI.size
  · rw [hr.time]; exact hI.time
end
section
variable {n m : NS} {W X : RS} {D : Int → Option Sec} {nx : Int} {H : Int → Prop} {S : Int × Int → Prop}
theorem Ji {k : Int × Int} : ZI W (fun _ => False) k ↔ jp W k := by
  unfold ZI jp
  constructor
  · rintro ⟨i, h1, h2, -, h4⟩; exact ⟨i, h1, h2, h4⟩
  · rintro ⟨i, h1, h2, h4⟩; exact ⟨i, h1, h2, id, h4⟩
theorem JF (hI : Inv W D nx) {w : Int × Int → Int} {s : Int × Int → Prop} {g : List Int} (hw : ∀ k, wC k → w k = qy W k) (hs : ∀ k, wC k → k.1 ≠ 1 → (s k ↔ zG W k = true)) (hg : g.Perm W.gone) : TS W (fun _ => False) S w s g := by
  have hl : ∀ k, wC k → yY W (fun _ => False) S k → k.1 ≠ 1 ∧ qy W k = 0 ∧ zG W k = false := by
    intro k hk h
    rcases h with h | ⟨h1, h2, -, h4⟩
    · exact h.2.elim
    · refine ⟨h1, Classical.byContradiction fun e => h4 (Ji.2 (hI.kid k hk h1 h2 (.inl e))), ?_⟩
      cases e : zG W k with
      | false => rfl
      | true => exact absurd (Ji.2 (hI.kid k hk h1 h2 (.inr e))) h4
  refine ⟨fun k hk h => (hw k hk).trans (hl k hk h).2.1, fun k hk _ => hw k hk, fun k hk h1 => ?_, hg.nodup_iff.2 hI.gnd, fun a => ?_⟩
  · rw [hs k hk h1]
    constructor
    · intro h; exact ⟨fun e => (by rw [(hl k hk e).2.2] at h; cases h), .inl h⟩
    · rintro ⟨-, h | ⟨i, h, -⟩⟩
      · exact h
      · exact h.elim
  · rw [hg.mem_iff]
    constructor
    · exact .inl
    · rintro (h | ⟨k, hk, h, e, h0⟩)
      · exact h
      · exact absurd ((hl k hk h).2.1) (by rw [e]; exact h0)
theorem TN.start (h : Cpl n W) (hI : Inv W D nx) : TN n n W (fun _ => False) kz :=
  ⟨JF hI h.at_ h.stale h.gone, fun _ _ e => e.elim, fun _ _ _ => rfl, h.stale1, h.ok, rfl, rfl, rfl, rfl, rfl⟩
theorem TR.start (hI : Inv W D nx) : TR W W (fun _ => False) (fun _ => False) :=
  ⟨JF hI (fun _ _ => rfl) (fun _ _ _ => Iff.rfl) (List.Perm.refl _), fun _ _ e => e.elim, fun _ _ _ => rfl, rfl, rfl, rfl, rfl, rfl⟩
theorem TN.has (h : Cpl n W) (hI : Inv W D nx) (hN : TN n m W H S) {i : Int} (hi : InB i) : xM m i ↔ ((W.all i).has = true ∧ ¬ H i) := by
  by_cases hH : H i
  · unfold xM
    have := hN.ts.w0 (1, i) (yH hi) (xe.2 hH)
    rw [hN.d0 i hi hH]
    simp [this, hH]
  · have := hN.ts.w1 (1, i) (yH hi) (fun e => hH (xe.1 e))
    have h2 : xM m i ↔ xM n i := by
      unfold xM
      rw [hN.d1 i hi hH, this, h.at_ _ (yH hi)]
    rw [h2, h.hasN_iff hI.has hi]
    simp [hH]
theorem TN.kids (h : Cpl n W) (hI : Inv W D nx) (hN : TN n m W H S) (k : Int × Int) : WX m k = true ↔ ZI W H k := by
  have hmem : ∀ i, i ∈ jI m ↔ InB i ∧ (W.all i).has = true ∧ ¬ H i := by
    intro i
    unfold jI
    rw [List.mem_filter, decide_eq_true_eq]
    have : i ∈ (List.range 1064).map (fun i : Nat => (i : Int)) ↔ InB i := yI (n := 1064)
    rw [this]
    constructor
    · rintro ⟨hi, hh⟩; exact ⟨hi, (hN.has h hI hi).1 hh⟩
    · rintro ⟨hi, hh⟩; exact ⟨hi, (hN.has h hI hi).2 hh⟩
  unfold WX ZI j8
  by_cases e : k = (4, 0)
  · rw [if_pos e, List.any_eq_true]
    constructor
    · rintro ⟨i, hi, h5⟩
      have := (hmem i).1 hi
      exact ⟨i, this.1, this.2.1, this.2.2, .inl ⟨e, by simpa using h5⟩⟩
    · rintro ⟨i, hi, h1, h2, h3 | h3⟩
      · exact ⟨i, (hmem i).2 ⟨hi, h1, h2⟩, by simpa using h3.2⟩
      · exact absurd (h3.trans e) (Q7 i)
  · rw [if_neg e, List.any_eq_true]
    constructor
    · rintro ⟨i, hi, h5⟩
      have := (hmem i).1 hi
      exact ⟨i, this.1, this.2.1, this.2.2, .inr (by simpa using h5)⟩
    · rintro ⟨i, hi, h1, h2, h3 | h3⟩
      · exact absurd h3.1 e
      · exact ⟨i, (hmem i).2 ⟨hi, h1, h2⟩, by simpa using h3⟩
theorem TN.loseIf (h : Cpl n W) (hI : Inv W D nx) (hN : TN n m W H S) {q : Int × Int} (hq : wC q) (h1 : q.1 ≠ 1) (h2 : q.1 ≠ 2) : TN n (loseIf m q) W H (fun k => S k ∨ k = q) := by
  unfold Proofs.YtjikpomndbkfgaaGreatDoor.loseIf
  by_cases hk : WX m q = true
  · rw [if_pos hk]
    exact { hN with ts := hN.ts.keep ((hN.kids h hI q).1 hk) }
  · rw [if_neg hk]
    refine ⟨?_, hN.d0, hN.d1, fun i => ?_, hN.ok.lose q, hN.num, hN.ver, hN.kind, hN.size, hN.time⟩
    · refine hN.ts.lose hI hq h1 h2 (fun e => hk ((hN.kids h hI q).2 e)) (fun k _ => ?_) (fun k _ _ => ?_) rfl
      · show (upd m.at_ q none k).getD 0 = _
        unfold upd; split
        · rfl
        · rfl
      · show upd m.stale q none k ≠ none ↔ _
        unfold upd; split
        · rename_i e; simp [e]
        · rename_i e; simp [e]
    · show upd m.stale q none (1, i) = none
      rw [wk _ _ (fun e => h1 (by rw [← e]))]; exact hN.st1 i
theorem TN.core (hI : Inv W D nx) (hN : TN n m W H S) {i : Int} (hi : InB i) (hn : ¬ H i) (hS : ∀ p, wC p → p.1 ≠ 1 → p.1 ≠ 2 → S p → ¬ j8 i p) {m' : NS}
    (ha : m'.at_ = upd m.at_ (1, i) none) (hd : m'.data = upd m.data i none) (hs : ∀ k, k.1 ≠ 1 → (m'.stale k ≠ none ↔ m.stale k ≠ none ∨ k = (2, 0) ∨ j8 i k)) (hs1 : ∀ j, m'.stale (1, j) = none)
    (hg : m'.gone = if (m.at_ (1, i)).getD 0 ≠ 0 then m.gone ++ [(m.at_ (1, i)).getD 0] else m.gone) (hok : NOk m') (e1 : m'.num = m.num) (e2 : m'.ver = m.ver) (e3 : m'.kind = m.kind) (e4 : m'.size = m.size) (e5 : m'.time = m.time) :
    TN n m' W (fun j => H j ∨ j = i) S := by
  refine ⟨hN.ts.hole hI hi hn hS (fun k _ => ?_) (fun k _ h1 => hs k h1) hg, fun j hj hh => ?_, fun j hj hh => ?_, hs1, hok, e1.trans hN.num, e2.trans hN.ver, e3.trans hN.kind, e4.trans hN.size, e5.trans hN.time⟩
  · rw [ha]; unfold upd; split <;> rfl
  · rw [hd]
    by_cases e : j = i
    · rw [e, zW]
    · rw [wk _ _ e]; exact hN.d0 j hj (hh.resolve_right e)
  · rw [hd, wk _ _ (fun e => hh (.inr e))]; exact hN.d1 j hj (fun e => hh (.inl e))
theorem Z3 {K β : Type} [DecidableEq K] {f : K → Option β} {q k : K} {v : β} : upd f q (some v) k ≠ none ↔ f k ≠ none ∨ k = q := by
  unfold upd; split
  · rename_i e; simp [e]
  · rename_i e; simp [e]
theorem VP {f : Int × Int → Option Int} {i : Int} {k : Int × Int} (h : k.1 ≠ 1) : upd f (1, i) none k = f k := wk _ _ (fun e => h (by rw [e]))
theorem setData_ok (h : NOk m) (i : Int) : NOk (zy m i none) := by
  refine ⟨fun j hj => h.data j (fun e => hj ?_), h.at1, h.at2, h.stale⟩
  show upd m.data i none j = none
  unfold upd; split
  · rfl
  · exact e
theorem TN.hole (h : Cpl n W) (hI : Inv W D nx) (hN : TN n m W H kz) {i : Int} (hi : InB i) (hh : (W.all i).has = true) (hn : ¬ H i) : TN n (x4 m i) W (fun j => H j ∨ j = i) kz := by
  have hok1 : NOk (jA (zy m i none) (1, i)) := (setData_ok hN.ok i).lose _
  have hok2 : NOk (setStale (jA (zy m i none) (1, i)) (2, 0)) := hok1.setStale yN
  have hs1 : ∀ j, upd m.stale (1, i) none (1, j) = none := fun j => by
    unfold upd; split
    · rfl
    · exact hN.st1 j
  have hkid : ∀ k, j8 i k → ZI W H k := fun k hu => ⟨i, hi, hh, hn, hu⟩
  unfold x4
  rcases Ww hi with e | e | ⟨j, hj, e⟩
  · rw [if_pos e]
    refine hN.core hI hi hn (fun p hp h1 h2 _ hu => ?_) rfl rfl (fun k h1 => ?_) (fun j => ?_) rfl hok2 rfl rfl rfl rfl rfl
    · rcases hu with hu | hu
      · rw [e] at hu; exact absurd hu.2 (by decide)
      · rw [e] at hu; exact h2 (by rw [← hu])
    · show upd (upd m.stale (1, i) none) (2, 0) (some 1) k ≠ none ↔ _
      rw [Z3, VP h1]
      unfold j8
      rw [e]
      constructor
      · rintro (h | h)
        · exact .inl h
        · exact .inr (.inl h)
      · rintro (h | h | h | h)
        · exact .inl h
        · exact .inr h
        · exact absurd h.2 (by decide)
        · exact .inr h.symm
    · show upd (upd m.stale (1, i) none) (2, 0) (some 1) (1, j) = none
      rw [wk _ _ (by simp)]; exact hs1 j
  · rw [if_neg (by rw [e]; decide), e, if_neg (by decide)]
    simp only [List.foldl_cons, List.foldl_nil]
    have hun : ∀ k, j8 i k ↔ k = (3, 0) := fun k => by
      unfold j8; rw [e]
      constructor
      · rintro (h | h)
        · exact absurd h.2 (by decide)
        · exact h.symm
      · intro h; exact .inr h.symm
    have hd : TN n m W H (fun k => kz k ∧ ¬ k = (3, 0)) := { hN with ts := hN.ts.drop (P := fun k => k = (3, 0)) (fun q hq => hkid q ((hun q).2 hq)) }
    have hc := hd.core hI hi hn (m' := setStale (setStale (jA (zy m i none) (1, i)) (2, 0)) (3, 0)) (fun p hp h1 h2 h3 hu => h3.2 ((hun p).1 hu)) rfl rfl (fun k h1 => by
      show upd (upd (upd m.stale (1, i) none) (2, 0) (some 1)) (3, 0) (some 1) k ≠ none ↔ _
      rw [Z3, Z3, VP h1, hun k]
      constructor
      · rintro ((h | h) | h)
        · exact .inl h
        · exact .inr (.inl h)
        · exact .inr (.inr h)
      · rintro (h | h | h)
        · exact .inl (.inl h)
        · exact .inl (.inr h)
        · exact .inr h) (fun j => by
      show upd (upd (upd m.stale (1, i) none) (2, 0) (some 1)) (3, 0) (some 1) (1, j) = none
      rw [wk _ _ (by simp), wk _ _ (by simp)]; exact hs1 j) rfl (hok2.setStale zl) rfl rfl rfl rfl rfl
    have hf := (hc.loseIf h hI zl (by decide) (by decide)).loseIf h hI zp (by decide) (by decide)
    exact { hf with ts := hf.ts.sets (fun k hk => or_congr Iff.rfl (and_congr Iff.rfl (and_congr Iff.rfl (and_congr ⟨fun _ => by
      by_cases e3 : k = (3, 0)
      · exact .inl (.inr e3)
      · exact .inl (.inl ⟨trivial, e3⟩), fun _ => trivial⟩ Iff.rfl)))) }
  · rw [if_neg (by rw [e]; simp), e, if_pos rfl]
    simp only [List.foldl_cons, List.foldl_nil]
    have hun : ∀ k, j8 i k ↔ (k = (5, j) ∨ k = (4, 0)) := fun k => by
      unfold j8; rw [e]
      constructor
      · rintro (h | h)
        · exact .inr h.1
        · exact .inl h.symm
      · rintro (h | h)
        · exact .inr h.symm
        · exact .inl ⟨h, rfl⟩
    have hd : TN n m W H (fun k => kz k ∧ ¬ (k = (5, j) ∨ k = (4, 0))) := { hN with ts := hN.ts.drop (P := fun k => k = (5, j) ∨ k = (4, 0)) (fun q hq => hkid q ((hun q).2 hq)) }
    have hc := hd.core hI hi hn (m' := setStale (setStale (setStale (jA (zy m i none) (1, i)) (2, 0)) (5, j)) (4, 0)) (fun p hp h1 h2 h3 hu => h3.2 ((hun p).1 hu)) rfl rfl (fun k h1 => by
      show upd (upd (upd (upd m.stale (1, i) none) (2, 0) (some 1)) (5, j) (some 1)) (4, 0) (some 1) k ≠ none ↔ _
      rw [Z3, Z3, Z3, VP h1, hun k]
      constructor
      · rintro (((h | h) | h) | h)
        · exact .inl h
        · exact .inr (.inl h)
        · exact .inr (.inr (.inl h))
        · exact .inr (.inr (.inr h))
      · rintro (h | h | h | h)
        · exact .inl (.inl (.inl h))
        · exact .inl (.inl (.inr h))
        · exact .inl (.inr h)
        · exact .inr h) (fun j' => by
      show upd (upd (upd (upd m.stale (1, i) none) (2, 0) (some 1)) (5, j) (some 1)) (4, 0) (some 1) (1, j') = none
      rw [wk _ _ (by simp), wk _ _ (by simp), wk _ _ (by simp)]; exact hs1 j') rfl ((hok2.setStale (yF hj)).setStale zp) rfl rfl rfl rfl rfl
    have hf := (hc.loseIf h hI (yF hj) (by simp) (by simp)).loseIf h hI zp (by decide) (by decide)
    exact { hf with ts := hf.ts.sets (fun k hk => or_congr Iff.rfl (and_congr Iff.rfl (and_congr Iff.rfl (and_congr ⟨fun _ => by
      by_cases e5 : k = (5, j)
      · exact .inl (.inr e5)
      · by_cases e4 : k = (4, 0)
        · exact .inr e4
        · exact .inl (.inl ⟨trivial, fun e => e.elim e5 e4⟩), fun _ => trivial⟩ Iff.rfl)))) }
theorem TN.holes (h : Cpl n W) (hI : Inv W D nx) (P : Int) : ∀ (l : List Int) (m : NS) (H : Int → Prop), TN n m W H kz → (∀ i ∈ l, InB i ∧ (W.all i).has = true ∧ ¬ H i) → l.Nodup →
    TN n (l.foldl (fun m i => if P < i then x4 m i else m) m) W (fun j => H j ∨ (j ∈ l ∧ P < j)) kz := by
  intro l
  induction l with
  | nil =>
    intro m H hN _ _
    have : (fun j => H j ∨ (j ∈ ([] : List Int) ∧ P < j)) = H := by funext j; simp
    rw [this]; exact hN
  | cons i l ih =>
    intro m H hN hl hnd
    have hnd' := List.nodup_cons.1 hnd
    rw [List.foldl_cons]
    have hi := hl i (by simp)
    by_cases hP : P < i
    · rw [if_pos hP]
      have := ih (x4 m i) (fun j => H j ∨ j = i) (hN.hole h hI hi.1 hi.2.1 hi.2.2) (fun j hj => ?_) hnd'.2
      · have e : (fun j => H j ∨ (j ∈ i :: l ∧ P < j)) = (fun j => (H j ∨ j = i) ∨ (j ∈ l ∧ P < j)) := by
          funext j
          refine propext ⟨?_, ?_⟩
          · rintro (h | ⟨h1, h2⟩)
            · exact .inl (.inl h)
            · rcases List.mem_cons.1 h1 with h1 | h1
              · exact .inl (.inr h1)
              · exact .inr ⟨h1, h2⟩
          · rintro ((h | h) | ⟨h1, h2⟩)
            · exact .inl h
            · exact .inr ⟨by rw [h]; simp, by rw [h]; exact hP⟩
            · exact .inr ⟨by simp [h1], h2⟩
        rw [e]; exact this
      · have := hl j (by simp [hj])
        exact ⟨this.1, this.2.1, fun e => e.elim this.2.2 (fun e2 => hnd'.1 (e2 ▸ hj))⟩
    · rw [if_neg hP]
      have := ih m H hN (fun j hj => hl j (by simp [hj])) hnd'.2
      have e : (fun j => H j ∨ (j ∈ i :: l ∧ P < j)) = (fun j => H j ∨ (j ∈ l ∧ P < j)) := by
        funext j
        refine propext ⟨?_, ?_⟩
        · rintro (h | ⟨h1, h2⟩)
          · exact .inl h
          · rcases List.mem_cons.1 h1 with h1 | h1
            · exact absurd (h1 ▸ h2) hP
            · exact .inr ⟨h1, h2⟩
        · rintro (h | ⟨h1, h2⟩)
          · exact .inl h
          · exact .inr ⟨by simp [h1], h2⟩
      rw [e]; exact this
end
section
variable {W X : RS} {D : Int → Option Sec} {nx : Int} {H : Int → Prop} {S : Int × Int → Prop}
theorem TR.kid (hr : TR W X H S) (k : Int × Int) : jp X k ↔ ZI W H k := by
  constructor
  · rintro ⟨i, hi, hh, hu⟩
    by_cases hH : H i
    · rw [hr.b0 i hi hH] at hh; cases hh
    · rw [hr.b1 i hi hH] at hh; exact ⟨i, hi, hh, hH, hu⟩
  · rintro ⟨i, hi, hh, hH, hu⟩
    exact ⟨i, hi, by rw [hr.b1 i hi hH]; exact hh, hu⟩
theorem holeR_wh (X : RS) {i : Int} (hi : InB i) {k : Int × Int} (hk : wC k) : qy (xg X i) k = if k = (1, i) then 0 else qy X k := by
  rcases wT hk with ⟨j, hj, rfl⟩ | rfl | rfl | rfl | ⟨j, hj, rfl⟩
  · rw [yK, yK]
    show (upd X.all i Blk.zero j).at_ = _
    unfold upd
    by_cases e : j = i
    · rw [if_pos e, if_pos (by rw [e])]; rfl
    · rw [if_neg e, if_neg (by simpa using e)]
  · rw [if_neg (by simp)]; rfl
  · rw [if_neg (by simp)]
    show (if (wW i).1 = 1 then (⟨X.sg.at_, true⟩ : yG) else X.sg).at_ = _
    split <;> rfl
  · rw [if_neg (by simp)]
    show (if (wW i).1 = 2 then (⟨X.db.at_, true⟩ : yG) else X.db).at_ = _
    split <;> rfl
  · rw [if_neg (by simp), kw, kw]
    show ((if (wW i).1 = 2 then upd X.leaves (wW i).2.1 ⟨(X.leaves (wW i).2.1).at_, true⟩ else X.leaves) j).at_ = _
    split
    · unfold upd; split
      · rename_i e; rw [e]
      · rfl
    · rfl
theorem holeR_st (X : RS) {i : Int} (hi : InB i) {k : Int × Int} (hk : wC k) (h1 : k.1 ≠ 1) : zG (xg X i) k = true ↔ (zG X k = true ∨ k = (2, 0) ∨ j8 i k) := by
  rcases wT hk with ⟨j, hj, rfl⟩ | rfl | rfl | rfl | ⟨j, hj, rfl⟩
  · exact absurd rfl h1
  · constructor
    · intro _; exact .inr (.inl rfl)
    · intro _; rfl
  · show (if (wW i).1 = 1 then (⟨X.sg.at_, true⟩ : yG) else X.sg).stale = true ↔ _
    have hu : j8 i (3, 0) ↔ (wW i).1 = 1 := by
      unfold j8; rw [Wy]
      constructor
      · rintro (h | h)
        · exact absurd h.1 (by decide)
        · exact h
      · exact .inr
    rw [hu]
    by_cases e : (wW i).1 = 1
    · rw [if_pos e]; simp [e]
    · rw [if_neg e]; simp [e]; rfl
  · show (if (wW i).1 = 2 then (⟨X.db.at_, true⟩ : yG) else X.db).stale = true ↔ _
    have hu : j8 i (4, 0) ↔ (wW i).1 = 2 := by
      unfold j8; rw [XY]
      constructor
      · rintro (h | h)
        · exact h.2
        · exact absurd h (Q7 i)
      · intro h; exact .inl ⟨rfl, h⟩
    rw [hu]
    by_cases e : (wW i).1 = 2
    · rw [if_pos e]; simp [e]
    · rw [if_neg e]; simp [e]; rfl
  · unfold zG
    rw [if_pos rfl, if_pos rfl]
    show ((if (wW i).1 = 2 then upd X.leaves (wW i).2.1 ⟨(X.leaves (wW i).2.1).at_, true⟩ else X.leaves) j).stale = true ↔ _
    rw [VQ, Wx]
    by_cases e : (wW i).1 = 2
    · rw [if_pos e]; unfold upd
      by_cases e2 : j = (wW i).2.1
      · rw [if_pos e2]; simp [e, e2]
      · rw [if_neg e2]; simp [e, Ne.symm e2]
    · rw [if_neg e]; simp [e]
theorem TR.hole (hI : Inv W D nx) (hr : TR W X H (fun _ => False)) {i : Int} (hi : InB i) (hn : ¬ H i) : TR W (xg X i) (fun j => H j ∨ j = i) (fun _ => False) := by
  refine ⟨hr.ts.hole hI hi hn (fun _ _ _ _ h => h.elim) (fun k hk => holeR_wh X hi hk) (fun k hk h1 => holeR_st X hi hk h1) rfl, fun j hj hh => ?_, fun j hj hh => ?_, hr.num, hr.ver, hr.kind, hr.size, hr.time⟩
  · show upd X.all i Blk.zero j = _
    by_cases e : j = i
    · rw [e, zW]
    · rw [wk _ _ e]; exact hr.b0 j hj (hh.resolve_right e)
  · show upd X.all i Blk.zero j = _
    rw [wk _ _ (fun e => hh (.inr e))]; exact hr.b1 j hj (fun e => hh (.inl e))
theorem TR.holes (hI : Inv W D nx) : ∀ (l : List Int) (X : RS) (b : Bool) (H : Int → Prop), TR W X H (fun _ => False) → (∀ i ∈ l, InB i ∧ ¬ H i) → l.Nodup →
    TR W (l.foldl yw (X, b)).1 (fun j => H j ∨ (j ∈ l ∧ (W.all j).has = true)) (fun _ => False) ∧ ((l.foldl yw (X, b)).2 = true ↔ (b = true ∨ ∃ j ∈ l, (W.all j).has = true)) := by
  intro l
  induction l with
  | nil =>
    intro X b H hr _ _
    have : (fun j => H j ∨ (j ∈ ([] : List Int) ∧ (W.all j).has = true)) = H := by funext j; simp
    rw [this]; exact ⟨hr, by simp⟩
  | cons i l ih =>
    intro X b H hr hl hnd
    have hnd' := List.nodup_cons.1 hnd
    have hi := hl i (by simp)
    rw [List.foldl_cons]
    have hX : X.all i = W.all i := hr.b1 i hi.1 hi.2
    by_cases hh : (W.all i).has = true
    · have hst : yw (X, b) i = (xg X i, true) := by unfold yw; rw [if_pos (by dsimp only; rw [hX]; exact hh)]
      rw [hst]
      have := ih (xg X i) true (fun j => H j ∨ j = i) (hr.hole hI hi.1 hi.2) (fun j hj => ⟨(hl j (by simp [hj])).1, fun e => e.elim (hl j (by simp [hj])).2 (fun e2 => hnd'.1 (e2 ▸ hj))⟩) hnd'.2
      have e : (fun j => H j ∨ (j ∈ i :: l ∧ (W.all j).has = true)) = (fun j => (H j ∨ j = i) ∨ (j ∈ l ∧ (W.all j).has = true)) := by
        funext j
        refine propext ⟨?_, ?_⟩
        · rintro (h | ⟨h1, h2⟩)
          · exact .inl (.inl h)
          · rcases List.mem_cons.1 h1 with h1 | h1
            · exact .inl (.inr h1)
            · exact .inr ⟨h1, h2⟩
        · rintro ((h | h) | ⟨h1, h2⟩)
          · exact .inl h
          · exact .inr ⟨by rw [h]; simp, by rw [h]; exact hh⟩
          · exact .inr ⟨by simp [h1], h2⟩
      rw [e]
      refine ⟨this.1, this.2.trans ⟨fun _ => .inr ⟨i, by simp, hh⟩, fun _ => .inl rfl⟩⟩
    · have hst : yw (X, b) i = (X, b) := by unfold yw; rw [if_neg (by dsimp only; rw [hX]; exact hh)]
      rw [hst]
      have := ih X b H hr (fun j hj => hl j (by simp [hj])) hnd'.2
      have e : (fun j => H j ∨ (j ∈ i :: l ∧ (W.all j).has = true)) = (fun j => H j ∨ (j ∈ l ∧ (W.all j).has = true)) := by
        funext j
        refine propext ⟨?_, ?_⟩
        · rintro (h | ⟨h1, h2⟩)
          · exact .inl h
          · rcases List.mem_cons.1 h1 with h1 | h1
            · exact absurd (h1 ▸ h2) hh
            · exact .inr ⟨h1, h2⟩
        · rintro (h | ⟨h1, h2⟩)
          · exact .inl h
          · exact .inr ⟨by simp [h1], h2⟩
      rw [e]
      refine ⟨this.1, this.2.trans ⟨?_, ?_⟩⟩
      · rintro (h | ⟨j, h1, h2⟩)
        · exact .inl h
        · exact .inr ⟨j, by simp [h1], h2⟩
      · rintro (h | ⟨j, h1, h2⟩)
        · exact .inl h
        · rcases List.mem_cons.1 h1 with h1 | h1
          · exact absurd (h1 ▸ h2) hh
          · exact .inr ⟨j, h1, h2⟩
theorem J1 (X : RS) (p : yG) : yJ X p = { X with gone := if p.at_ ≠ 0 then X.gone ++ [p.at_] else X.gone } := by unfold yJ; split <;> rfl
theorem TR.loseP (hI : Inv W D nx) (hr : TR W X H S) {q : Int × Int} (hq : wC q) (h1 : q.1 ≠ 1) (h2 : q.1 ≠ 2) (hk : ¬ ZI W H q) {X' : RS}
    (hw : ∀ k, wC k → qy X' k = if k = q then 0 else qy X k) (hs : ∀ k, wC k → k.1 ≠ 1 → zG X' k = if k = q then false else zG X k)
    (hg : X'.gone = if qy X q ≠ 0 then X.gone ++ [qy X q] else X.gone) (ha : X'.all = X.all) (e1 : X'.num = X.num) (e2 : X'.ver = X.ver) (e3 : X'.kind = X.kind) (e4 : X'.size = X.size) (e5 : X'.time = X.time) : TR W X' H (fun k => S k ∨ k = q) := by
  refine ⟨hr.ts.lose hI hq h1 h2 hk hw (fun k hkp hk1 => ?_) hg, fun i hi hh => by rw [ha]; exact hr.b0 i hi hh, fun i hi hh => by rw [ha]; exact hr.b1 i hi hh, e1.trans hr.num, e2.trans hr.ver, e3.trans hr.kind, e4.trans hr.size, e5.trans hr.time⟩
  rw [hs k hkp hk1]
  by_cases e : k = q
  · rw [if_pos e]; simp [e]
  · rw [if_neg e]; simp [e]
theorem TR.leaf (hI : Inv W D nx) (hr : TR W X H S) {j : Int} (hj : 0 ≤ j ∧ j < 32) : TR W (wm X j) H (fun k => S k ∨ k = (5, j)) := by
  unfold wm
  by_cases hk : yD X 2 j = true
  · rw [if_pos hk]
    exact { hr with ts := hr.ts.keep ((hr.kid (5, j)).1 ((Yb X j hj.1).1 hk)) }
  · rw [if_neg hk, J1]
    refine hr.loseP hI (yF hj) (by simp) (by simp) (fun e => hk ((Yb X j hj.1).2 ((hr.kid (5, j)).2 e))) (fun k hkp => ?_) (fun k hkp hk1 => ?_) rfl rfl rfl rfl rfl rfl rfl
    · rcases wT hkp with ⟨i, hi, rfl⟩ | rfl | rfl | rfl | ⟨j', hj', rfl⟩
      · exact (if_neg (by simp)).symm
      · exact (if_neg (by simp)).symm
      · exact (if_neg (by simp)).symm
      · exact (if_neg (by simp)).symm
      · rw [kw, kw]; dsimp only; unfold upd
        by_cases e : j' = j
        · rw [if_pos e, if_pos (by rw [e])]
        · rw [if_neg e, if_neg (by simpa using e)]
    · rcases wT hkp with ⟨i, hi, rfl⟩ | rfl | rfl | rfl | ⟨j', hj', rfl⟩
      · exact absurd rfl hk1
      · exact (if_neg (by simp)).symm
      · exact (if_neg (by simp)).symm
      · exact (if_neg (by simp)).symm
      · unfold zG; rw [if_pos rfl, if_pos rfl]; dsimp only; unfold upd
        by_cases e : j' = j
        · rw [if_pos e, if_pos (by rw [e])]
        · rw [if_neg e, if_neg (by simpa using e)]
theorem TR.sgs (hI : Inv W D nx) (hr : TR W X H S) : TR W (WB X) H (fun k => S k ∨ k = (3, 0)) := by
  unfold WB
  by_cases hk : yD X 1 0 = true
  · rw [if_pos hk]
    exact { hr with ts := hr.ts.keep ((hr.kid (3, 0)).1 ((XO X).1 hk)) }
  · rw [if_neg hk, J1]
    refine hr.loseP hI zl (by decide) (by decide) (fun e => hk ((XO X).2 ((hr.kid (3, 0)).2 e))) (fun k hkp => ?_) (fun k hkp hk1 => ?_) rfl rfl rfl rfl rfl rfl rfl
    · rcases wT hkp with ⟨i, hi, rfl⟩ | rfl | rfl | rfl | ⟨j', hj', rfl⟩
      · exact (if_neg (by simp)).symm
      · rfl
      · rfl
      · rfl
      · exact (if_neg (by simp)).symm
    · rcases wT hkp with ⟨i, hi, rfl⟩ | rfl | rfl | rfl | ⟨j', hj', rfl⟩
      · exact absurd rfl hk1
      · rfl
      · rfl
      · rfl
      · exact (if_neg (by simp)).symm
theorem TR.dbs (hI : Inv W D nx) (hr : TR W X H S) : TR W (Yf X) H (fun k => S k ∨ k = (4, 0)) := by
  unfold Yf
  by_cases hk : yD X 2 (-1) = true
  · rw [if_pos hk]
    exact { hr with ts := hr.ts.keep ((hr.kid (4, 0)).1 ((XP X).1 hk)) }
  · rw [if_neg hk, J1]
    refine hr.loseP hI zp (by decide) (by decide) (fun e => hk ((XP X).2 ((hr.kid (4, 0)).2 e))) (fun k hkp => ?_) (fun k hkp hk1 => ?_) rfl rfl rfl rfl rfl rfl rfl
    · rcases wT hkp with ⟨i, hi, rfl⟩ | rfl | rfl | rfl | ⟨j', hj', rfl⟩
      · exact (if_neg (by simp)).symm
      · rfl
      · rfl
      · rfl
      · exact (if_neg (by simp)).symm
    · rcases wT hkp with ⟨i, hi, rfl⟩ | rfl | rfl | rfl | ⟨j', hj', rfl⟩
      · exact absurd rfl hk1
      · rfl
      · rfl
      · rfl
      · exact (if_neg (by simp)).symm
theorem TR.leaves (hI : Inv W D nx) : ∀ (l : List Int) (X : RS) (S : Int × Int → Prop), TR W X H S → (∀ j ∈ l, 0 ≤ j ∧ j < 32) → TR W (l.foldl wm X) H (fun k => S k ∨ ∃ j ∈ l, k = (5, j)) := by
  intro l
  induction l with
  | nil =>
    intro X S hr _
    have : (fun k => S k ∨ ∃ j ∈ ([] : List Int), k = (5, j)) = S := by funext k; simp
    rw [this]; exact hr
  | cons j l ih =>
    intro X S hr hl
    rw [List.foldl_cons]
    have := ih (wm X j) _ (hr.leaf hI (hl j (by simp))) (fun i hi => hl i (by simp [hi]))
    have e : (fun k => S k ∨ ∃ i ∈ j :: l, k = (5, i)) = (fun k => (S k ∨ k = (5, j)) ∨ ∃ i ∈ l, k = (5, i)) := by
      funext k
      refine propext ⟨?_, ?_⟩
      · rintro (h | ⟨i, h1, h2⟩)
        · exact .inl (.inl h)
        · rcases List.mem_cons.1 h1 with h1 | h1
          · exact .inl (.inr (by rw [h2, h1]))
          · exact .inr ⟨i, h1, h2⟩
      · rintro ((h | h) | ⟨i, h1, h2⟩)
        · exact .inl h
        · exact .inr ⟨j, by simp, h⟩
        · exact .inr ⟨i, by simp [h1], h2⟩
    rw [e]; exact this
theorem TR.all (hI : Inv W D nx) (P : Nat) : TR W (Zw (((zo 1064).drop P).foldl yw (W, false))) (fun j => j ∈ (zo 1064).drop P ∧ (W.all j).has = true) kz := by
  have hmem : ∀ i, i ∈ (zo 1064).drop P → InB i := fun i hi => yI.1 (List.mem_of_mem_drop hi)
  have hnd : ((zo 1064).drop P).Nodup := by
    have : (zo 1064).Nodup := (xv 1064).imp (fun h => Int.ne_of_lt h)
    exact this.sublist (List.drop_sublist _ _)
  obtain ⟨h1, h2⟩ := TR.holes hI ((zo 1064).drop P) W false (fun _ => False) (TR.start hI) (fun i hi => ⟨hmem i hi, id⟩) hnd
  have e : (fun j => False ∨ (j ∈ (zo 1064).drop P ∧ (W.all j).has = true)) = (fun j => j ∈ (zo 1064).drop P ∧ (W.all j).has = true) := by funext j; simp
  rw [e] at h1
  obtain ⟨r, hr⟩ : ∃ r, ((zo 1064).drop P).foldl yw (W, false) = r := ⟨_, rfl⟩
  rw [hr] at h1 h2 ⊢
  unfold Zw
  by_cases hb : r.2 = true
  · rw [if_pos hb]
    have h3 := ((TR.leaves hI (zo 32) r.1 _ h1 (fun j hj => yI.1 hj)).sgs hI).dbs hI
    exact { h3 with ts := h3.ts.sets (fun k hk => by
      unfold yY
      refine or_congr Iff.rfl ⟨?_, ?_⟩
      · rintro ⟨k1, k2, -, k4⟩
        refine ⟨k1, k2, ?_, k4⟩
        rcases wT hk with ⟨i, hi, rfl⟩ | rfl | rfl | rfl | ⟨j, hj, rfl⟩
        · exact absurd rfl k1
        · exact absurd rfl k2
        · exact .inl (.inr rfl)
        · exact .inr rfl
        · exact .inl (.inl (.inr ⟨j, yI.2 hj, rfl⟩))
      · rintro ⟨k1, k2, -, k4⟩; exact ⟨k1, k2, trivial, k4⟩) }
  · rw [if_neg hb]
    have hno : ∀ j ∈ (zo 1064).drop P, ¬ (W.all j).has = true := fun j hj hh => hb (h2.2 (.inr ⟨j, hj, hh⟩))
    have hH : (fun j => j ∈ (zo 1064).drop P ∧ (W.all j).has = true) = (fun _ => False) := by
      funext j
      refine propext ⟨fun h => hno j h.1 h.2, False.elim⟩
    have hrW : ∀ (l : List Int), (∀ j ∈ l, ¬ (W.all j).has = true) → l.foldl yw (W, false) = (W, false) := by
      intro l
      induction l with
      | nil => intro _; rfl
      | cons j l ih =>
        intro hl
        rw [List.foldl_cons, show yw (W, false) j = (W, false) from by unfold yw; rw [if_neg (hl j (by simp))]]
        exact ih (fun i hi => hl i (by simp [hi]))
    rw [hrW _ hno] at hr
    rw [hH, ← hr]
    exact ⟨JF hI (fun _ _ => rfl) (fun _ _ _ => Iff.rfl) (List.Perm.refl _), fun _ _ e => e.elim, fun _ _ _ => rfl, rfl, rfl, rfl, rfl, rfl⟩
end
theorem VA (s : Sec) (k j : Nat) (hk : k ≤ 128) (hj : j < 128) : (s.clr k).l.getD j 0 = if k ≤ j then 0 else s.l.getD j 0 := by
  unfold Sec.clr
  rw [JS s _ k j (by rw [List.length_replicate]; omega) (fun b hb => by rw [List.mem_replicate] at hb; omega), List.length_replicate]
  by_cases h : k ≤ j
  · rw [if_pos ⟨h, by omega⟩, if_pos h, List.getD_eq_getElem?_getD, List.getElem?_replicate]; split <;> rfl
  · rw [if_neg (fun e => h e.1), if_neg h]
theorem Q0 {n P : Nat} {j : Int} : j ∈ (zo n).drop P ↔ (P : Int) ≤ j ∧ j < n := by
  constructor
  · intro h
    obtain ⟨i, hi⟩ := List.mem_iff_getElem?.1 h
    rw [List.getElem?_drop] at hi
    have hlt := (List.getElem?_eq_some_iff.1 hi).1
    rw [x2] at hlt
    rw [kx hlt] at hi
    have := Option.some.inj hi
    omega
  · rintro ⟨h1, h2⟩
    refine List.mem_iff_getElem?.2 ⟨j.toNat - P, ?_⟩
    rw [List.getElem?_drop, kx (by omega)]
    congr 1; omega
section
variable {n : NS} {W : RS} {D : Int → Option Sec} {nx : Int}
theorem first_cpl (h : Cpl n W) (hI : Inv W D nx) {size : Int} (hs : 0 ≤ size ∧ size ≤ 136192) :
    ∃ n1, jQ n D size = some n1 ∧ Cpl n1 (yo W size) ∧ Inv (yo W size) D nx ∧ (yo W size).size = W.size ∧
      (∀ i, InB i → i < zf size → ∀ j : Nat, j < 128 → size ≤ 128 * i + j → ((yo W size).all i).s.l.getD j 0 = 0) ∧ n1.size = n.size := by
  have hW := hI.size
  unfold jQ yo
  rw [h.size]
  by_cases hc : size < W.size ∧ size % 128 ≠ 0 ∧ (W.all (size / 128)).has = true
  · have hQ : zf size - 1 = size / 128 := by unfold zf; rw [if_neg (by omega)]; omega
    have hi : InB (size / 128) := ⟨by omega, by omega⟩
    rw [if_pos hc, hQ, if_pos ⟨hc.1, hc.2.1, (h.hasN_iff hI.has hi).2 hc.2.2⟩, XU h hI hi]
    obtain ⟨Q, hQe⟩ : ∃ Q, size / 128 = Q := ⟨_, rfl⟩
    obtain ⟨r, hr⟩ : ∃ r : Nat, (size % 128).toNat = r := ⟨_, rfl⟩
    rw [hQe] at hi hc ⊢
    rw [hr]
    refine ⟨_, rfl, ?_, ?_, rfl, ?_, h.size⟩
    · refine ⟨h.num, h.ver, h.kind, h.size, h.time, fun q hq => (h.at_ q hq).trans ?_, fun j hj => ?_, h.stale, h.stale1, h.gone, ⟨fun j hj => ?_, h.ok.at1, h.ok.at2, h.ok.stale⟩⟩
      · rcases wT hq with ⟨i, hi', rfl⟩ | rfl | rfl | rfl | ⟨j, hj, rfl⟩
        · rw [yK, yK]; dsimp only; unfold upd; split
          · rename_i e; rw [e]; rfl
          · rfl
        all_goals rfl
      · show upd n.data Q (some ((W.all Q).s.clr r)) j = _
        dsimp only
        by_cases e : j = Q
        · subst e; simp only [zW]; rfl
        · simp only [wk _ _ e]; exact h.data j hj
      · by_cases e : j = Q
        · subst e; exact hi
        · exact h.ok.data j (by have hj' : upd n.data Q (some ((W.all Q).s.clr r)) j ≠ none := hj; rwa [wk _ _ e] at hj')
    · refine hI.touch (fun j => j = Q) (fun j e => e ▸ hi) ⟨Q, rfl⟩ ⟨fun _ _ => rfl, rfl, rfl, rfl, rfl, rfl, rfl, rfl, rfl, fun j hj => ?_⟩ (fun j hj => ?_) (fun j hj => ?_) (fun j hj hn => ?_) hI.size (fun j hj m hm hle => ?_)
      · dsimp only; unfold upd; split
        · rename_i e; rw [e]; rfl
        · rfl
      · dsimp only
        by_cases e : j = Q
        · subst e; rw [zW]; simp [Yi, hc.2.2]
        · rw [wk _ _ e]; simp [e]
      · dsimp only
        by_cases e : j = Q
        · subst e; rw [zW]; simp [Yi]
        · rw [wk _ _ e]; simp [e]
      · dsimp only; rw [wk _ _ hn]
      · dsimp only at hle ⊢
        by_cases e : j = Q
        · subst e; rw [zW]
          show ((W.all j).s.clr r).l.getD m 0 = 0
          rw [VA _ _ _ (by omega) hm]; split
          · rfl
          · exact hI.zero j hj m hm hle
        · rw [wk _ _ e]; exact hI.zero j hj m hm hle
    · intro i hi2 hlt j hj hle
      dsimp only
      have : i = Q := by omega
      subst this
      rw [zW]
      show ((W.all i).s.clr r).l.getD j 0 = 0
      rw [VA _ _ _ (by omega) hj, if_pos (by omega)]
  · rw [if_neg hc]
    have hc2 : ¬ (size < W.size ∧ size % 128 ≠ 0 ∧ xM n (zf size - 1)) := by
      rintro ⟨h1, h2, h3⟩
      have hQ : zf size - 1 = size / 128 := by unfold zf; rw [if_neg (by omega)]; omega
      rw [hQ] at h3
      exact hc ⟨h1, h2, (h.hasN_iff hI.has ⟨by omega, by omega⟩).1 h3⟩
    rw [if_neg hc2]
    refine ⟨n, rfl, h, hI, rfl, ?_, h.size⟩
    intro i hi hlt j hj hle
    have hb := hi.1
    by_cases hm : size % 128 = 0
    · exfalso; unfold zf at hlt; split at hlt <;> omega
    · have hiQ : i = size / 128 := by unfold zf at hlt; split at hlt <;> omega
      by_cases hlt2 : size < W.size
      · have hh : (W.all i).has = false := by
          cases e : (W.all i).has with
          | false => rfl
          | true => exact absurd ⟨hlt2, hm, by rw [← hiQ]; exact e⟩ hc
        rw [hI.hole i hi hh]; exact Qj j
      · exact hI.zero i hi j hj (by omega)
theorem trunc_cpl (h : Cpl n W) (hI : Inv W D nx) (size : Int) :
    (kA n D size).1 = (jl W size).1 ∧ Cpl (kA n D size).2 (jl W size).2 ∧ Inv (jl W size).2 D nx := by
  unfold kA jl
  by_cases h1 : size < 0
  · rw [if_pos h1, if_pos h1]; exact ⟨rfl, h, hI⟩
  · rw [if_neg h1, if_neg h1]
    by_cases h2 : 136192 < size
    · rw [if_pos h2, if_pos h2]; exact ⟨rfl, h, hI⟩
    · rw [if_neg h2, if_neg h2]
      obtain ⟨n1, hf, hC1, hI1, hsz, hZ, hsz1⟩ := first_cpl h hI (size := size) ⟨by omega, by omega⟩
      rw [hf]
      dsimp only
      obtain ⟨W1, hW1⟩ : ∃ W1, yo W size = W1 := ⟨_, rfl⟩
      rw [hW1] at hC1 hI1 hZ hsz ⊢
      have hP := Yk (s := size) ⟨by omega, by omega⟩
      obtain ⟨P, hPe⟩ : ∃ P : Nat, zf size = P := ⟨(zf size).toNat, by omega⟩
      have hidx : ∀ i, i ∈ jI n1 ↔ InB i ∧ (W1.all i).has = true := fun i => by rw [hC1.idx hI1.has]; exact Qs
      have hnd : (jI n1).Nodup := by
        unfold jI
        exact ((xv 1064).imp (fun h => Int.ne_of_lt h)).sublist List.filter_sublist
      have hN := TN.holes hC1 hI1 (zf size - 1) (jI n1) n1 (fun _ => False) (TN.start hC1 hI1) (fun i hi => ⟨((hidx i).1 hi).1, ((hidx i).1 hi).2, id⟩) hnd
      have hR := TR.all hI1 P
      have hH : (fun j => False ∨ (j ∈ jI n1 ∧ zf size - 1 < j)) = (fun j => j ∈ (zo 1064).drop P ∧ (W1.all j).has = true) := by
        funext j
        refine propext ⟨?_, ?_⟩
        · rintro (e | ⟨h3, h4⟩)
          · exact e.elim
          · have := (hidx j).1 h3
            exact ⟨Q0.2 ⟨by omega, this.1.2⟩, this.2⟩
        · rintro ⟨h3, h4⟩
          have := Q0.1 h3
          exact .inr ⟨(hidx j).2 ⟨⟨by omega, by omega⟩, h4⟩, by omega⟩
      rw [hH] at hN
      have hth : kE W1 size = ((zo 1064).drop P).foldl yw (W1, false) := by unfold kE; rw [hPe]; rfl
      have htn : Q9 n1 size = (jI n1).foldl (fun m i => if zf size - 1 < i then x4 m i else m) n1 := rfl
      rw [← htn] at hN
      rw [← hth] at hR
      obtain ⟨X, hX⟩ : ∃ X, Zw (kE W1 size) = X := ⟨_, rfl⟩
      obtain ⟨m, hm⟩ : ∃ m, Q9 n1 size = m := ⟨_, rfl⟩
      rw [hX] at hR ⊢
      rw [hm] at hN ⊢
      have hCX := tr_cpl hC1 hN hR
      have hIX := tr_inv hI1 (fun i hi => by have := Q0.1 hi.1; exact ⟨by omega, by omega⟩) hR
      refine ⟨rfl, ?_⟩
      unfold QA KW
      rw [hCX.size]
      by_cases e : X.size ≠ size
      · rw [if_pos e, if_pos e]
        have hst : ∀ q, wC q → q.1 ≠ 1 → zG { X with size := size, self := ⟨X.self.at_, true⟩ } q = if q = (2, 0) then true else zG X q := by
          intro q hq hq1
          rcases wT hq with ⟨i, hi, rfl⟩ | rfl | rfl | rfl | ⟨j, hj, rfl⟩
          · exact absurd rfl hq1
          · rfl
          · rfl
          · rfl
          · exact (if_neg (by simp)).symm
        refine ⟨hCX.setStale (W1 := { X with size := size, self := ⟨X.self.at_, true⟩ }) yN (by decide) (fun _ _ => rfl) (fun _ _ => rfl) hst rfl rfl rfl rfl _ (by dsimp only; rw [show X.time = m.time from hCX.time.symm]; rfl), ?_⟩
        refine hIX.mark (fun _ _ => rfl) (fun _ _ => rfl) (fun q hq hq1 hs => by rw [hst q hq hq1, hs]; simp) (fun q hq hq1 hq2 hs => ?_) rfl rfl rfl rfl (.inr rfl) (by dsimp only; omega) hIX.time ?_
        · rw [hst q hq hq1, if_neg (fun e => hq2 (by rw [e]))] at hs
          exact .inl hs
        · intro i hi j hj hle
          dsimp only at hle
          by_cases hh : i ∈ (zo 1064).drop P ∧ (W1.all i).has = true
          · rw [hR.b0 i hi hh]; exact Qj j
          · rw [hR.b1 i hi hh]
            by_cases hlt : i < zf size
            · exact hZ i hi hlt j hj hle
            · have : (W1.all i).has = false := by
                cases e2 : (W1.all i).has with
                | false => rfl
                | true => exact absurd ⟨Q0.2 ⟨by omega, hi.2⟩, e2⟩ hh
              rw [hI1.hole i hi this]; exact Qj j
      · rw [if_neg e, if_neg e]; exact ⟨hCX, hIX⟩
end
end Go.Proofs.YtjikpomndbkfgaaGreatDoor
namespace Go.Sx
open Go
theorem Reads.mono {w0 w1 : World} {R L : Res} {y : Value} {m sz : Nat} {ys : List Value} (h : Reads w0 R y m sz ys) (hs : ∀ x, x ∈ R.flatten → x ∈ L.flatten) : Reads w1 L y m sz ys := by
  obtain ⟨p, c, h1, h2, h3⟩ := h.h
  refine ⟨p, c, h1, h2, h3.imp id ?_⟩
  rintro ⟨b, off, cs, e, fr, h4, h5, h6⟩
  exact ⟨b, off, cs, e, fr, h4, hs _ h5, h6⟩
theorem Reads.cutTo {w0 : World} {R : Res} {q : Option Addr} {m c t : Nat} {ys : List Value} (h : Reads w0 R (.slice q m c) m 1 ys) (ht : t ≤ m) (hm : 0 < m) :
    Reads w0 R (.slice (if c = 0 then q else q.map (·.add (0 * 1))) (t - 0) (c - 0)) t 1 (ys.take t) := by
  obtain ⟨p, c', h1, h2, h3⟩ := h.h
  cases h1
  rcases h3 with h3 | ⟨b, off, cs, e, fr, rfl, h5, h6⟩
  · omega
  · refine ⟨_, _, rfl, by rw [List.length_take]; omega, .inr ⟨b, off, cs, e, fr, ?_, h5, ?_⟩⟩
    · split
      · rfl
      · simp [yl]
    · rw [← h6, List.take_take, Nat.mul_one, Nat.mul_one, Nat.min_eq_left ht]
end Go.Sx
namespace Go.Proofs.YtjikpomndbkfgaaGreatDoor
open Go Go.Sx Go.Nd
set_option maxRecDepth 10000
section
variable {w0 : World} {L F : Res} {ba bl : Nat}
structure Z1 where
  kind : Int
  at_ : Int
  n : Int
  q : Option Addr
  c : Nat
  bs : List Int
def Ym (a : Z1) : List Value := [.int .i64 a.kind, .int .i64 a.at_, .int .i64 a.n, .slice a.q a.bs.length a.c]
structure X4 (R : Res) (a : Z1) : Prop where
  at_ : -9223372036854775808 ≤ a.at_ ∧ a.at_ ≤ 9223372036854775807
  n : -9223372036854775808 ≤ a.n ∧ a.n ≤ 9223372036854775807
  bs : IsB a.bs
  len : a.bs.length ≤ a.c
  q : a.q = none → a.bs.length = 0
  reads : ∀ w0, Reads w0 R (.slice a.q a.bs.length a.c) a.bs.length 1 (u8s a.bs)
theorem x9 (l : List Int) (n : Nat) : (u8s l).take n = u8s (l.take n) := by simp [u8s]
theorem Wv (m : Int) {M : Int} (h0 : 0 ≤ M) (h : M < 4611686018427387904) : 0 ≤ zH .and .i64 m M ∧ zH .and .i64 m M ≤ M := by
  have e : zH .and .i64 m M = IntKind.i64.wrap (((BitVec.ofInt 64 m &&& BitVec.ofInt 64 M : BitVec 64).toNat : Nat) : Int) := rfl
  rw [e, BitVec.toNat_and]
  have h1 := xd (w := 64) h0 (by have : (2 : Int) ^ 64 = 18446744073709551616 := (by decide); omega)
  have h2 : (BitVec.ofInt 64 m).toNat &&& (BitVec.ofInt 64 M).toNat ≤ (BitVec.ofInt 64 M).toNat := Nat.and_le_right
  have e1 : IntKind.i64.min = -9223372036854775808 := by decide
  have e2 : IntKind.i64.max = 9223372036854775807 := by decide
  obtain ⟨z, hz⟩ : ∃ z, (BitVec.ofInt 64 m).toNat &&& (BitVec.ofInt 64 M).toNat = z := ⟨_, rfl⟩
  rw [hz] at h2 ⊢
  rw [W8 (by rw [e1, e2]; omega)]
  omega
theorem tmod6 (m : Int) : -6 < m.tmod 6 ∧ m.tmod 6 < 6 := by
  rcases Int.lt_or_le m 0 with h | h
  · have e : m.tmod 6 = -((-m) % 6) := by
      rw [← Int.tmod_eq_emod_of_nonneg (show 0 ≤ -m by omega), Int.neg_tmod]; omega
    rw [e]; omega
  · rw [Int.tmod_eq_emod_of_nonneg h]; omega
def plA (a : Z1) : List (Int × Int) := [(2, 0), (3, 0), (4, 0), (5, zH .and .i64 a.n 31), (1, zH .and .i64 a.at_ 1023), (1, zH .and .i64 a.n 15)]
theorem plA_ok (a : Z1) : ∀ k ∈ plA a, wC k := by
  have h1 := Wv a.n (M := 31) (by omega) (by omega)
  have h2 := Wv a.at_ (M := 1023) (by omega) (by omega)
  have h3 := Wv a.n (M := 15) (by omega) (by omega)
  intro k hk
  simp only [plA, List.mem_cons, List.not_mem_nil, or_false] at hk
  rcases hk with rfl | rfl | rfl | rfl | rfl | rfl
  · exact yN
  · exact zl
  · exact zp
  · exact yF ⟨h1.1, by omega⟩
  · exact yH ⟨h2.1, by omega⟩
  · exact yH ⟨h3.1, by omega⟩
structure StP (nx : Int) (n : NS) (W : RS) (D : Int → Option Sec) (m : Nat) : Prop where
  cpl : Cpl n W
  inv : Inv W D nx
  nxb : nx ≤ 100 + 1100 * m
def StG (x m : Nat) (F L : Res) : Prop := ∃ p md v nx od n W D Cn C ba bl, StP nx n W D m ∧ NodeC p n Cn ∧ RefC ba bl W v C ∧ MapF (Value.int .i64) jH D od ∧ L = StD x p v md nx false od :: Cn :: C :: F
theorem StP.up {nx : Int} {n : NS} {W : RS} {D : Int → Option Sec} {m : Nat} (h : StP nx n W D m) : StP nx n W D (m + 1) := ⟨h.cpl, h.inv, by have := h.nxb; push_cast; omega⟩
theorem nodup_bd {l : List Int} {nx : Int} (hn : l.Nodup) (h : ∀ a ∈ l, 1 ≤ a ∧ a < nx) (hnx : 1 ≤ nx) : (l.length : Int) < nx := by
  have key : ∀ (l1 l2 : List Int), l1.Nodup → (∀ x ∈ l1, x ∈ l2) → l1.length ≤ l2.length := by
    intro l1
    induction l1 with
    | nil => intro l2 _ _; simp
    | cons a l ih =>
      intro l2 hn hs
      have h1 := List.nodup_cons.1 hn
      have ha := hs a (by simp)
      have := ih (l2.erase a) h1.2 (fun x hx => (List.mem_erase_of_ne (fun e => h1.1 (by subst e; exact hx))).2 (hs x (by simp [hx])))
      have e := List.length_erase_of_mem ha
      have pos : 0 < l2.length := List.length_pos_of_mem ha
      simp; omega
  have := key l (jX 1 (nx - 1).toNat) hn (fun x hx => by
    have := h x hx
    exact List.mem_map.2 ⟨(x - 1).toNat, List.mem_range.2 (by omega), by omega⟩)
  rw [ZD] at this
  omega
theorem StP.gone {nx : Int} {n : NS} {W : RS} {D : Int → Option Sec} {m : Nat} (h : StP nx n W D m) (hm : m ≤ 50) : W.gone.length ≤ 60000 ∧ n.gone.length ≤ 60000 := by
  have h1 := nodup_bd h.inv.gnd h.inv.rngG h.inv.nx
  have h2 := h.nxb
  have h3 := h.cpl.gone.length_eq
  omega
theorem StP.fl {nx : Int} {n : NS} {W : RS} {D : Int → Option Sec} {m : Nat} (h : StP nx n W D m) : NFl n := by
  have hI := h.inv
  refine ⟨by rw [h.cpl.num, hI.num]; omega, by rw [h.cpl.ver, hI.ver]; omega, by rw [h.cpl.kind]; exact hI.kind, by rw [h.cpl.size]; exact hI.size, by rw [h.cpl.time]; exact hI.time⟩
theorem Kw : Cpl (Zv 3 7 1) (Wj 3 7 1) ∧ Inv (Wj 3 7 1) (fun _ => none) 100 := by
  have hw : ∀ k, wC k → qy (Wj 3 7 1) k = 0 := by
    intro k hk
    rcases wT hk with ⟨i, hi, rfl⟩ | rfl | rfl | rfl | ⟨j, hj, rfl⟩ <;> rfl
  have hs : ∀ k, wC k → k.1 ≠ 1 → (zG (Wj 3 7 1) k = true ↔ k = (2, 0)) := by
    intro k hk h1
    rcases wT hk with ⟨i, hi, rfl⟩ | rfl | rfl | rfl | ⟨j, hj, rfl⟩
    · exact absurd rfl h1
    · exact ⟨fun _ => rfl, fun _ => rfl⟩
    · exact ⟨fun h => (by cases h), fun h => (by cases h)⟩
    · exact ⟨fun h => (by cases h), fun h => (by cases h)⟩
    · exact ⟨fun h => (by cases h), fun h => (by cases h)⟩
  refine ⟨⟨rfl, rfl, rfl, rfl, rfl, fun k hk => (hw k hk).symm, fun i hi => rfl, fun k hk h1 => ?_, fun i => ?_, List.Perm.refl _, ⟨fun k hk => absurd rfl hk, fun k hk => absurd rfl hk, fun k a h => (by cases h), fun k hk => ?_⟩⟩, ?_⟩
  · rw [hs k hk h1]
    unfold Zv; dsimp only
    unfold upd; split
    · rename_i e; simp [e]
    · rename_i e; simp [e]
  · unfold Zv; dsimp only
    rw [wk _ _ (by simp)]
  · have hk' := hk
    unfold Zv at hk'; dsimp only at hk'
    by_cases e : k = (2, 0)
    · rw [e]; exact yN
    · rw [wk _ _ e] at hk'; exact absurd rfl hk'
  · refine ⟨fun i hi => ?_, fun i hi _ => rfl, fun k hk h1 h2 h => ?_, fun k hk h1 h => ?_, fun k hk h => absurd (hw k hk) h, fun a ha => (by cases ha), fun k q hk hq h => absurd (hw k hk) h, List.nodup_nil, fun a ha => (by cases ha), fun k hk h => absurd (hw k hk) h, fun a => ?_, fun h => absurd rfl h, fun i hi j hj hle => Qj j, rfl, rfl, by decide, by decide, by decide, by decide⟩
    · exact ⟨fun h => (by cases h), fun h => h.elim (fun h => by cases h) (fun h => absurd rfl h)⟩
    · rcases h with h | h
      · exact absurd (hw k hk) h
      · exact absurd (by rw [(hs k hk h1).1 h]) h2
    · by_cases h2 : k.1 = 2
      · rcases wT hk with ⟨i, hi, rfl⟩ | rfl | rfl | rfl | ⟨j, hj, rfl⟩
        · exact absurd rfl h1
        · exact .inr (Zp rfl)
        · exact absurd h2 (by decide)
        · exact absurd h2 (by decide)
        · exact absurd h2 (by simp)
      · obtain ⟨i, hi, hh, -⟩ := h h2
        cases hh
    · constructor
      · intro h; exact absurd rfl h
      · rintro (h | ⟨k, hk, e, h0⟩)
        · cases h
        · rw [hw k hk] at e; exact absurd e.symm h0
end
end Go.Proofs.YtjikpomndbkfgaaGreatDoor
namespace Go.Sx
open Go
section
variable {P : Program} {N : Nat} {w0 : World} {E : Env} {L : Res}
theorem run_equalIn_bool {w : World} (n : Nat) (t : TypeId) (p q : Bool) (h : P.underlying t = some .bool) :
    (Op.equalIn (n + 1) t (.bool p) (.bool q)).run P w = .ok (p == q) w := by
  simp [Op.equalIn, wA h]
theorem run_eql_bool {w : World} (t : TypeId) (p q : Bool) (h : P.underlying t = some .bool) :
    (binOp .eql t (.bool p) (.bool q)).run P w = .ok (.bool (p == q)) w := by
  simp only [binOp]
  simp [show Op.equal t (.bool p) (.bool q) = Op.equalIn (9999 + 1) t (.bool p) (.bool q) from rfl, run_equalIn_bool 9999 t p q h]
theorem op_eqlB {x y : Operand} {t yt ty : TypeId} {p q : Bool} (hx : opv E x = some (.bool p)) (hy : opv E y = some (.bool q)) (h : P.underlying t = some .bool) : Op1 P N w0 E L (.binOp .eql t x y yt) ty (.bool (p == q)) L :=
  .of_run fun o a w h1 _ h3 h4 => ⟨w, by
    have hg : (eqGuard .eql t x y (.bool p) (.bool q)).run P w = .ok () w := rfl
    rw [execOp, h1]
    simp only [Sem.run_bind, h3.eval hx, h3.eval hy, hg, Result.andThen_ok, run_eql_bool t p q h]
    rfl, h4⟩
end
end Go.Sx
namespace Go.Proofs.YtjikpomndbkfgaaGreatDoor
open Go Go.Sx Go.Nd
set_option maxRecDepth 10000
section
variable {w0 : World} {L F : Res} {ba bl : Nat}
theorem in2 {G I : qV} {L : Res} (h1 : ∀ x, x ∈ G → x ∈ L.flatten) (h2 : ∀ x, x ∈ I → x ∈ L.flatten) : ∀ x, x ∈ ([G, I] : Res).flatten → x ∈ L.flatten := by
  intro x hx
  simp only [List.flatten_cons, List.flatten_nil, List.append_nil, List.mem_append] at hx
  exact hx.elim (h1 x) (h2 x)
def Xq (a m : Int) : Int := if a < 0 ∨ m < 0 then 1 else 0
def Zo (W : RS) (a m : Int) : List Int := if a < 0 ∨ m < 0 then [] else ZL W a m
theorem readB_len (W : RS) (a m : Int) (hm : m ≤ 200000) : (Zo W a m).length ≤ 200000 := by
  unfold Zo; split
  · simp
  · unfold ZL; rw [List.length_map, List.length_range]; omega
theorem lread_ok (p : Nat) (n : NS) (W : RS) (Cn Dc : qV) (hn : NodeC p n Cn) (a m : Int) (rv : Value) (D : Int → Option Sec) {nx : Int} (hr : KC rv Dc D) (h : Cpl n W) (hI : Inv W D nx) (ha : a ≤ 9223372036854775807) (hm : m ≤ 9223372036854775807) :
    FnT Tryz.prog w0 9 #[.pointer (some ⟨p, 0, none⟩), .int .i64 a, .int .i64 m, rv] (Cn :: Dc :: F) (fun v L' => ∃ u C2, v = .tuple #[u, .int .i64 (Xq a m)] ∧ SlC 5 1 u (Zo W a m).length (u8s (Zo W a m)) C2 ∧ L' = C2 :: Cn :: Dc :: F) := by
  by_cases hb : a < 0 ∨ m < 0
  · unfold Xq Zo
    rw [if_pos hb, if_pos hb]
    exact ((Ys p a m rv hb).post fun v L' ⟨h1, h2⟩ => ⟨_, ⟨.slice none 0 0, [], h1, SlC.nil _ _, rfl⟩, by rw [h2]; exact we (by simp)⟩)
  · unfold Xq Zo
    rw [if_neg hb, if_neg hb]
    have hsz : 0 ≤ n.size ∧ n.size ≤ 136192 := by rw [h.size]; exact hI.size
    refine (Zn p n Cn Dc hn a m rv D hr hsz ⟨by omega, ha⟩ ⟨by omega, hm⟩).mono fun v L' ⟨u2, C2, h1, h2⟩ => ?_
    rw [read_cpl h hI (by omega) (by omega)] at h2
    exact ⟨u2, C2, h2.1, h2.2, h1⟩
theorem lrread_ok (W : RS) (v : List Value) (C : qV) (hw : RefC ba bl W v C) (a m : Int) (ha : -9223372036854775808 ≤ a ∧ a ≤ 9223372036854775807) (hm : -9223372036854775808 ≤ m ∧ m ≤ 9223372036854775807) (hs : 0 ≤ W.size ∧ W.size ≤ 136192) :
    FnT Tryz.prog w0 29 #[.agg v.toArray, .int .i64 a, .int .i64 m] (C :: F) (fun v L' => ∃ u C2, v = .tuple #[u, .int .i64 (Xq a m)] ∧ SlC 5 1 u (Zo W a m).length (u8s (Zo W a m)) C2 ∧ L' = C2 :: C :: F) := by
  refine (rread_ok W v C hw a m ha hs.2).mono fun v L' ⟨C', h1, h2⟩ => ?_
  unfold Xq Zo
  by_cases hb : a < 0 ∨ m < 0
  · rw [if_pos hb] at h1; rw [if_pos hb, if_pos hb]
    obtain ⟨h1, rfl⟩ := h1
    exact ⟨_, [], h1, SlC.nil _ _, h2⟩
  · rw [if_neg hb] at h1; rw [if_neg hb, if_neg hb]
    obtain ⟨u, h1, h3⟩ := h1
    exact ⟨u, C', h1, h3, h2⟩
theorem ldo_ok (H : jJ w0) (HP : xo) (x p md : Nat) (v : List Value) (nx : Int) (dn : Bool) (hdn : dn = false) (od : Obj) (n : NS) (W : RS) (D : Int → Option Sec) (Cn C G I : qV) (m : Nat) (a : Z1)
    (hn : NodeC p n Cn) (hw : RefC ba bl W v C) (hD : MapF (Value.int .i64) jH D od) (hg : kn G) (hP : StP nx n W D m) (hm : m ≤ 50) (ha : X4 [G, I] a) :
    FnT Tryz.prog w0 8 #[.pointer (some ⟨x, 0, none⟩), .agg (Ym a).toArray] (StD x p v md nx dn od :: Cn :: C :: G :: I :: F) (fun r L' => r = .bool true ∧ StG x (m + 1) (G :: I :: F) L') := by
  have hv := hw.len
  have hgl := hP.gone hm
  have hI := hP.inv
  have hsz := hI.size
  have hnsz : 0 ≤ n.size ∧ n.size ≤ 136192 := by rw [hP.cpl.size]; exact hsz
  have hnxb := hP.nxb
  have hrd : KC (.func (.func 11) #[.pointer (some ⟨x, 0, none⟩)] #[]) (StD x p v md nx dn od) D := by
    have := Qb x p md v nx dn od D hv hD
    rw [hdn, V2] at this; rw [hdn]; exact this
  rw [show Ym a = [.int .i64 a.kind, .int .i64 a.at_, .int .i64 a.n, .slice a.q a.bs.length a.c] from rfl]
  have hat := ha.at_
  have hnn := ha.n
  refine qh (E0 := [(0, _), (1, _)]) (N := 232) Tryz.func8 rfl rfl rfl rfl ?_
  refine qP <| qG (wq rfl) ?_
  rintro t3 _ ⟨b3, rfl, rfl⟩
  refine qD rfl <| qo <| q9 (qA rfl) <| q9 (qH rfl rfl) <| qD rfl <| qF <| zb (Γ := {pΓ : (Option Addr) × (Nat) × (List Int) // (fun (q : Option Addr) (c : Nat) (bs : List Int) => IsB bs ∧ bs.length ≤ 700 ∧ bs.length ≤ c ∧ (q = none → bs.length = 0) ∧ (∀ w0, Reads w0 [G, I] (.slice q bs.length c) bs.length 1 (u8s bs))) pΓ.1 pΓ.2.1 pΓ.2.2}) (fun g => (fun (q : Option Addr) (c : Nat) (bs : List Int) => [(0, .pointer (some ⟨x, 0, none⟩)), (3, .pointer (some ⟨b3, 0, none⟩)), (5, .slice q bs.length c)]) g.1.1 g.1.2.1 g.1.2.2) (fun g => (fun (q : Option Addr) (c : Nat) (bs : List Int) => [(b3, .cells [.int .i64 a.kind, .int .i64 a.at_, .int .i64 a.n, .slice a.q a.bs.length a.c].toArray 25 (0, 0))] :: StD x p v md nx dn od :: Cn :: C :: G :: I :: F) g.1.1 g.1.2.1 g.1.2.2) ?_ ?_
  ·
   refine qP <| qB rfl <| q9 (wD rfl) <| q9 (y9 rfl rfl) <| qF <| qL rfl (fun hc2 => ?_) (fun hc2 => ?_)
   ·
    refine qK <| qB rfl <| q9 (kf (kl := .i64) (kh := .i64) (l := 0) (h := 700) rfl rfl rfl (by omega) (by have := ha.len; omega) ha.len) ?_
    refine qD rfl <| qT ?_
    rw [show (700 - 0 : Nat) = (a.bs.take 700).length from by rw [List.length_take]; omega]
    refine qW ⟨(if a.c = 0 then a.q else a.q.map (·.add (0 * 1)), a.c - 0, a.bs.take 700), ?_⟩ ?_
    ·
     try dsimp only
     refine ⟨Ks ha.bs 700, by rw [List.length_take]; omega, by have := ha.len; rw [List.length_take]; omega, fun e => ?_, fun w0 => ?_⟩
     · exfalso; have hqq := ha.q; split at e
       · have := hqq e; omega
       · cases hq : a.q with
         | none => have := hqq hq; omega
         | some z => rw [hq] at e; cases e
     · have h7 : (a.bs.take 700).length = 700 := by rw [List.length_take]; omega
       rw [h7, ← x9]; exact (ha.reads w0).cutTo (t := 700) (by omega) (by omega)
    · (try dsimp only); exact qX _
   ·
    refine qZ <| qW ⟨(a.q, a.c, a.bs), ?_⟩ ?_
    · (try dsimp only); exact ⟨ha.bs, by omega, ha.len, ha.q, ha.reads⟩
    · (try dsimp only); exact qX _
  rintro ⟨⟨q, c, bs⟩, hcut⟩
  replace hcut : IsB bs ∧ bs.length ≤ 700 ∧ bs.length ≤ c ∧ (q = none → bs.length = 0) ∧ (∀ w0, Reads w0 [G, I] (.slice q bs.length c) bs.length 1 (u8s bs)) := hcut
  obtain ⟨hbs, hb7, hbc, hbq, hbr⟩ := hcut
  show Tr _ _ _ ([(0, .pointer (some ⟨x, 0, none⟩)), (3, .pointer (some ⟨b3, 0, none⟩)), (5, .slice q bs.length c)]) ([(b3, .cells [.int .i64 a.kind, .int .i64 a.at_, .int .i64 a.n, .slice a.q a.bs.length a.c].toArray 25 (0, 0))] :: StD x p v md nx dn od :: Cn :: C :: G :: I :: F) _ _
  refine zb (Γ := {pΓ : (NS) × (RS) × (List Value) × (qV) × (qV) // (fun (n1 : NS) (W1 : RS) (l1 : List Value) (Cn1 : qV) (C1 : qV) => NodeC p n1 Cn1 ∧ RefC ba bl W1 l1 C1 ∧ Cpl n1 W1 ∧ Inv W1 D nx) pΓ.1 pΓ.2.1 pΓ.2.2.1 pΓ.2.2.2.1 pΓ.2.2.2.2}) (fun g => (fun (n1 : NS) (W1 : RS) (l1 : List Value) (Cn1 : qV) (C1 : qV) => []) g.1.1 g.1.2.1 g.1.2.2.1 g.1.2.2.2.1 g.1.2.2.2.2) (fun g => (fun (n1 : NS) (W1 : RS) (l1 : List Value) (Cn1 : qV) (C1 : qV) => StD x p l1 md nx dn od :: Cn1 :: C1 :: G :: I :: F) g.1.1 g.1.2.1 g.1.2.2.1 g.1.2.2.2.1 g.1.2.2.2.2) ?_ ?_
  ·
   refine qP <| q9 (qA rfl) <| q9 (qH rfl rfl) <| qF <| qg <| qP <| q9 (wl rfl rfl) <| qD rfl <| qF <| qL rfl (fun hc5 => ?_) (fun hc5 => ?_)
   ·
    refine qO <| wQ w8 <| wE [(34, .pure _), (35, .pure _), (36, .pure _), (37, .pure _), (38, .pure _), (39, .pure _), (40, .pure _), (41, .pure _), (42, .pure _)] (by kernel_rfl) rfl rfl rfl wd (qC rfl (fun X => qM rfl) <| qC rfl (fun X => qQ rfl) <| qC rfl (fun X => qA rfl) <| qC rfl (fun X => qH rfl jL) <| qC rfl (fun X => qA rfl) <| qC rfl (fun X => qH rfl rfl) <| qC rfl (fun X => qM rfl) <| qC rfl (fun X => qM rfl) <| qC rfl (fun X => wx rfl rfl) <| ParH.nil rfl) ?_
    dsimp only [zQ, List.drop, List.length]
    refine wu (by kernel_rfl) (qx rfl (k0 (Cn) (StD x p v md nx dn od) (Qa p n Cn (StD x p v md nx dn od) hn a.at_ q c bs _ D hrd hnsz hat hbs (by omega) hbc hbq (fun A => (hbr w0).mono (in2 (fun z hz => by simp [hz]) (fun z hz => by simp [hz])))))) ?_
    rintro t43 _ ⟨Cn', rfl, hn', rfl⟩
    refine qm (by kernel_rfl) (z8 rfl) ?_
    refine wI <| qI <| zb (Γ := {pΓ : (Nat) × (List Value) × (qV) // (fun (y : Nat) (l1 : List Value) (C1 : qV) => RefC ba bl (ke W a.at_ bs).2 l1 C1) pΓ.1 pΓ.2.1 pΓ.2.2}) (fun g => (fun (y : Nat) (l1 : List Value) (C1 : qV) => [(0, .pointer (some ⟨x, 0, none⟩)), (6, .int .i64 (kv n D a.at_ bs).1), (7, .pointer (some ⟨y, 0, none⟩)), (8, .int .i64 (ke W a.at_ bs).1)]) g.1.1 g.1.2.1 g.1.2.2) (fun g => (fun (y : Nat) (l1 : List Value) (C1 : qV) => [(y, .cells l1.toArray 41 (0, 0))] :: StD x p v md nx dn od :: Cn' :: C1 :: G :: I :: F) g.1.1 g.1.2.1 g.1.2.2) ?_ ?_
    ·
     refine yT w8 (show TrS _ _ _ _ [false, false, false, false, false, false, false, false, false, false, false, false, false, false] _ _ _ from ?_)
     refine qJ 0 rfl rfl rfl (wP rfl) <| qJ 1 rfl rfl rfl (zw rfl) <| qJ 2 rfl rfl rfl (wn rfl) <| qJ 4 rfl rfl rfl (wn rfl) <| qJ 6 rfl rfl rfl (wP rfl) <| xX (i := 3) (j := 5) (k := 11) (by kernel_rfl) rfl ?_ ?_ ?_
     ·
      refine qe rfl rfl rfl (zZ (r := v) rfl (kT hv) hv) <| wy (i := 5) (j := 11) (by kernel_rfl) rfl ?_ ?_
      ·
       refine qe rfl rfl rfl (qH rfl rfl) <| wy (i := 7) (j := 11) (by kernel_rfl) rfl ?_ ?_
       ·
        refine wB rfl rfl rfl (qx rfl (wc (C) (jw W v C hw a.at_ q c bs hat hbs (by omega) ((hbr w0).mono (in2 (fun z hz => by simp [hz]) (fun z hz => by simp [hz])))))) ?_
        rintro t52 _ ⟨l', C', rfl, hw', rfl⟩
        refine qJ 8 rfl rfl rfl (wP rfl) <| qJ 9 rfl rfl rfl (qv rfl rfl) <| qJ 10 rfl rfl rfl (qv rfl rfl) <| qR 11 rfl <| wB rfl rfl rfl (qn) ?_
        rintro t7 _ ⟨b7, rfl, rfl⟩
        refine qR 12 rfl <| wR rfl rfl rfl (qq (l := node0V) rfl rfl rfl hw'.len hw'.one) <| qJ 13 rfl rfl rfl (wM rfl) <| wG <| qW ⟨(b7, l', C'), ?_⟩ ?_
        · (try dsimp only); exact hw'
        · (try dsimp only); exact qX _
       ·
        refine wB rfl rfl rfl (qn) ?_
        rintro t7 _ ⟨b7, rfl, rfl⟩
        refine qR 7 rfl <| wB rfl rfl rfl (qx rfl (wc (C) (jw W v C hw a.at_ q c bs hat hbs (by omega) ((hbr w0).mono (in2 (fun z hz => by simp [hz]) (fun z hz => by simp [hz])))))) ?_
        rintro t52 _ ⟨l', C', rfl, hw', rfl⟩
        refine qJ 8 rfl rfl rfl (wP rfl) <| qJ 9 rfl rfl rfl (qv rfl rfl) <| qJ 10 rfl rfl rfl (qv rfl rfl) <| qR 12 rfl <| wR rfl rfl rfl (qq (l := node0V) rfl rfl rfl hw'.len hw'.one) <| qJ 13 rfl rfl rfl (wM rfl) <| wG <| qW ⟨(b7, l', C'), ?_⟩ ?_
        · (try dsimp only); exact hw'
        · (try dsimp only); exact qX _
      ·
       refine wB rfl rfl rfl (qn) ?_
       rintro t7 _ ⟨b7, rfl, rfl⟩
       refine qR 5 rfl <| qe rfl rfl rfl (qH rfl rfl) <| qR 7 rfl <| wB rfl rfl rfl (qx rfl (wc (C) (jw W v C hw a.at_ q c bs hat hbs (by omega) ((hbr w0).mono (in2 (fun z hz => by simp [hz]) (fun z hz => by simp [hz])))))) ?_
       rintro t52 _ ⟨l', C', rfl, hw', rfl⟩
       refine qJ 8 rfl rfl rfl (wP rfl) <| qJ 9 rfl rfl rfl (qv rfl rfl) <| qJ 10 rfl rfl rfl (qv rfl rfl) <| qR 12 rfl <| wR rfl rfl rfl (qq (l := node0V) rfl rfl rfl hw'.len hw'.one) <| qJ 13 rfl rfl rfl (wM rfl) <| wG <| qW ⟨(b7, l', C'), ?_⟩ ?_
       · (try dsimp only); exact hw'
       · (try dsimp only); exact qX _
     ·
      refine qe rfl rfl rfl (qH rfl rfl) <| wy (i := 3) (j := 11) (by kernel_rfl) rfl ?_ ?_
      ·
       refine qe rfl rfl rfl (zZ (r := v) rfl (kT hv) hv) <| wy (i := 7) (j := 11) (by kernel_rfl) rfl ?_ ?_
       ·
        refine wB rfl rfl rfl (qx rfl (wc (C) (jw W v C hw a.at_ q c bs hat hbs (by omega) ((hbr w0).mono (in2 (fun z hz => by simp [hz]) (fun z hz => by simp [hz])))))) ?_
        rintro t52 _ ⟨l', C', rfl, hw', rfl⟩
        refine qJ 8 rfl rfl rfl (wP rfl) <| qJ 9 rfl rfl rfl (qv rfl rfl) <| qJ 10 rfl rfl rfl (qv rfl rfl) <| qR 11 rfl <| wB rfl rfl rfl (qn) ?_
        rintro t7 _ ⟨b7, rfl, rfl⟩
        refine qR 12 rfl <| wR rfl rfl rfl (qq (l := node0V) rfl rfl rfl hw'.len hw'.one) <| qJ 13 rfl rfl rfl (wM rfl) <| wG <| qW ⟨(b7, l', C'), ?_⟩ ?_
        · (try dsimp only); exact hw'
        · (try dsimp only); exact qX _
       ·
        refine wB rfl rfl rfl (qn) ?_
        rintro t7 _ ⟨b7, rfl, rfl⟩
        refine qR 7 rfl <| wB rfl rfl rfl (qx rfl (wc (C) (jw W v C hw a.at_ q c bs hat hbs (by omega) ((hbr w0).mono (in2 (fun z hz => by simp [hz]) (fun z hz => by simp [hz])))))) ?_
        rintro t52 _ ⟨l', C', rfl, hw', rfl⟩
        refine qJ 8 rfl rfl rfl (wP rfl) <| qJ 9 rfl rfl rfl (qv rfl rfl) <| qJ 10 rfl rfl rfl (qv rfl rfl) <| qR 12 rfl <| wR rfl rfl rfl (qq (l := node0V) rfl rfl rfl hw'.len hw'.one) <| qJ 13 rfl rfl rfl (wM rfl) <| wG <| qW ⟨(b7, l', C'), ?_⟩ ?_
        · (try dsimp only); exact hw'
        · (try dsimp only); exact qX _
      ·
       refine wB rfl rfl rfl (qn) ?_
       rintro t7 _ ⟨b7, rfl, rfl⟩
       refine qR 3 rfl <| qe rfl rfl rfl (zZ (r := v) rfl (kT hv) hv) <| qR 7 rfl <| wB rfl rfl rfl (qx rfl (wc (C) (jw W v C hw a.at_ q c bs hat hbs (by omega) ((hbr w0).mono (in2 (fun z hz => by simp [hz]) (fun z hz => by simp [hz])))))) ?_
       rintro t52 _ ⟨l', C', rfl, hw', rfl⟩
       refine qJ 8 rfl rfl rfl (wP rfl) <| qJ 9 rfl rfl rfl (qv rfl rfl) <| qJ 10 rfl rfl rfl (qv rfl rfl) <| qR 12 rfl <| wR rfl rfl rfl (qq (l := node0V) rfl rfl rfl hw'.len hw'.one) <| qJ 13 rfl rfl rfl (wM rfl) <| wG <| qW ⟨(b7, l', C'), ?_⟩ ?_
       · (try dsimp only); exact hw'
       · (try dsimp only); exact qX _
     ·
      refine wB rfl rfl rfl (qn) ?_
      rintro t7 _ ⟨b7, rfl, rfl⟩
      refine wy (i := 3) (j := 5) (by kernel_rfl) rfl ?_ ?_
      ·
       refine qe rfl rfl rfl (zZ (r := v) rfl (kT hv) hv) <| qR 5 rfl <| qe rfl rfl rfl (qH rfl rfl) <| qR 7 rfl <| wB rfl rfl rfl (qx rfl (wc (C) (jw W v C hw a.at_ q c bs hat hbs (by omega) ((hbr w0).mono (in2 (fun z hz => by simp [hz]) (fun z hz => by simp [hz])))))) ?_
       rintro t52 _ ⟨l', C', rfl, hw', rfl⟩
       refine qJ 8 rfl rfl rfl (wP rfl) <| qJ 9 rfl rfl rfl (qv rfl rfl) <| qJ 10 rfl rfl rfl (qv rfl rfl) <| qR 12 rfl <| wR rfl rfl rfl (qq (l := node0V) rfl rfl rfl hw'.len hw'.one) <| qJ 13 rfl rfl rfl (wM rfl) <| wG <| qW ⟨(b7, l', C'), ?_⟩ ?_
       · (try dsimp only); exact hw'
       · (try dsimp only); exact qX _
      ·
       refine qe rfl rfl rfl (qH rfl rfl) <| qR 3 rfl <| qe rfl rfl rfl (zZ (r := v) rfl (kT hv) hv) <| qR 7 rfl <| wB rfl rfl rfl (qx rfl (wc (C) (jw W v C hw a.at_ q c bs hat hbs (by omega) ((hbr w0).mono (in2 (fun z hz => by simp [hz]) (fun z hz => by simp [hz])))))) ?_
       rintro t52 _ ⟨l', C', rfl, hw', rfl⟩
       refine qJ 8 rfl rfl rfl (wP rfl) <| qJ 9 rfl rfl rfl (qv rfl rfl) <| qJ 10 rfl rfl rfl (qv rfl rfl) <| qR 12 rfl <| wR rfl rfl rfl (qq (l := node0V) rfl rfl rfl hw'.len hw'.one) <| qJ 13 rfl rfl rfl (wM rfl) <| wG <| qW ⟨(b7, l', C'), ?_⟩ ?_
       · (try dsimp only); exact hw'
       · (try dsimp only); exact qX _
    rintro ⟨⟨y, l1, C1⟩, hcut⟩
    replace hcut : RefC ba bl (ke W a.at_ bs).2 l1 C1 := hcut
    have hw1 := hcut
    show Tr _ _ _ ([(0, .pointer (some ⟨x, 0, none⟩)), (6, .int .i64 (kv n D a.at_ bs).1), (7, .pointer (some ⟨y, 0, none⟩)), (8, .int .i64 (ke W a.at_ bs).1)]) ([(y, .cells l1.toArray 41 (0, 0))] :: StD x p v md nx dn od :: Cn' :: C1 :: G :: I :: F) _ _
    refine qP <| qB rfl <| q9 (wS rfl hw1.len) <| q9 (qQ rfl) <| q9 (qA rfl) <| qS (k3 (r := stV p l1 md nx dn) rfl rfl (WA hv hw1.len) (by rw [ja hv, hw1.len]; decide) hw1.len hw1.one) ?_
    refine qo <| qB rfl <| qB rfl <| q9 (wl rfl rfl) <| qD rfl <| qF <| qz <| wN <| kD <| wF (StD x p l1 md nx dn od :: Cn' :: C1 :: G :: I :: F) (.inl rfl) rfl (qu rfl) ?_
    have hc := JP hP.cpl hI a.at_ bs hbs
    exact ⟨congrArg Value.bool (decide_eq_true hc.1), p, md, l1, nx, od, _, _, D, Cn', C1, ba, bl, ⟨hc.2.1, hc.2.2, by push_cast; omega⟩, hn', hw1, hD, by rw [hdn]⟩
   ·
    refine qP <| q9 (wl rfl rfl) <| qD rfl <| qF <| qL rfl (fun hc10 => ?_) (fun hc10 => ?_)
    ·
     refine qO <| wQ w8 <| wE [(64, .pure _), (65, .pure _), (66, .pure _), (67, .pure _), (68, .pure _), (69, .pure _), (70, .pure _), (71, .pure _)] (by kernel_rfl) rfl rfl rfl wd (qC rfl (fun X => qM rfl) <| qC rfl (fun X => qQ rfl) <| qC rfl (fun X => qA rfl) <| qC rfl (fun X => qH rfl jL) <| qC rfl (fun X => qA rfl) <| qC rfl (fun X => qH rfl rfl) <| qC rfl (fun X => qM rfl) <| qC rfl (fun X => wx rfl rfl) <| ParH.nil rfl) ?_
     dsimp only [zQ, List.drop, List.length]
     refine wu (by kernel_rfl) (qx rfl (ku (Cn) (StD x p v md nx dn od) (G) (Yp H p n Cn (StD x p v md nx dn od) G hn hg hP.cpl.ok a.n _ D hrd hnn (by omega)))) ?_
     rintro t72 _ ⟨Cn', rfl, hn', rfl⟩
     refine qm (by kernel_rfl) (z8 rfl) ?_
     refine wI <| qI <| zb (Γ := {pΓ : (Nat) × (List Value) × (qV) // (fun (y : Nat) (l1 : List Value) (C1 : qV) => RefC ba bl (jl W a.n).2 l1 C1) pΓ.1 pΓ.2.1 pΓ.2.2}) (fun g => (fun (y : Nat) (l1 : List Value) (C1 : qV) => [(0, .pointer (some ⟨x, 0, none⟩)), (9, .int .i64 (kA n D a.n).1), (10, .pointer (some ⟨y, 0, none⟩)), (11, .int .i64 (jl W a.n).1)]) g.1.1 g.1.2.1 g.1.2.2) (fun g => (fun (y : Nat) (l1 : List Value) (C1 : qV) => [(y, .cells l1.toArray 41 (0, 0))] :: StD x p v md nx dn od :: Cn' :: C1 :: G :: I :: F) g.1.1 g.1.2.1 g.1.2.2) ?_ ?_
     ·
      refine yT w8 (show TrS _ _ _ _ [false, false, false, false, false, false, false, false, false, false, false, false, false] _ _ _ from ?_)
      refine qJ 0 rfl rfl rfl (wP rfl) <| qJ 1 rfl rfl rfl (zw rfl) <| qJ 2 rfl rfl rfl (wn rfl) <| qJ 4 rfl rfl rfl (wn rfl) <| xX (i := 3) (j := 5) (k := 10) (by kernel_rfl) rfl ?_ ?_ ?_
      ·
       refine qe rfl rfl rfl (zZ (r := v) rfl (kT hv) hv) <| wy (i := 5) (j := 10) (by kernel_rfl) rfl ?_ ?_
       ·
        refine qe rfl rfl rfl (qH rfl rfl) <| wy (i := 6) (j := 10) (by kernel_rfl) rfl ?_ ?_
        ·
         refine wB rfl rfl rfl (qx rfl (wc (C) (kU W v C hw a.n hnn (by omega) hsz.2))) ?_
         rintro t80 _ ⟨l', C', rfl, hw', rfl⟩
         refine qJ 7 rfl rfl rfl (wP rfl) <| qJ 8 rfl rfl rfl (qv rfl rfl) <| qJ 9 rfl rfl rfl (qv rfl rfl) <| qR 10 rfl <| wB rfl rfl rfl (qn) ?_
         rintro t10 _ ⟨b10, rfl, rfl⟩
         refine qR 11 rfl <| wR rfl rfl rfl (qq (l := node0V) rfl rfl rfl hw'.len hw'.one) <| qJ 12 rfl rfl rfl (wM rfl) <| wG <| qW ⟨(b10, l', C'), ?_⟩ ?_
         · (try dsimp only); exact hw'
         · (try dsimp only); exact qX _
        ·
         refine wB rfl rfl rfl (qn) ?_
         rintro t10 _ ⟨b10, rfl, rfl⟩
         refine qR 6 rfl <| wB rfl rfl rfl (qx rfl (wc (C) (kU W v C hw a.n hnn (by omega) hsz.2))) ?_
         rintro t80 _ ⟨l', C', rfl, hw', rfl⟩
         refine qJ 7 rfl rfl rfl (wP rfl) <| qJ 8 rfl rfl rfl (qv rfl rfl) <| qJ 9 rfl rfl rfl (qv rfl rfl) <| qR 11 rfl <| wR rfl rfl rfl (qq (l := node0V) rfl rfl rfl hw'.len hw'.one) <| qJ 12 rfl rfl rfl (wM rfl) <| wG <| qW ⟨(b10, l', C'), ?_⟩ ?_
         · (try dsimp only); exact hw'
         · (try dsimp only); exact qX _
       ·
        refine wB rfl rfl rfl (qn) ?_
        rintro t10 _ ⟨b10, rfl, rfl⟩
        refine qR 5 rfl <| qe rfl rfl rfl (qH rfl rfl) <| qR 6 rfl <| wB rfl rfl rfl (qx rfl (wc (C) (kU W v C hw a.n hnn (by omega) hsz.2))) ?_
        rintro t80 _ ⟨l', C', rfl, hw', rfl⟩
        refine qJ 7 rfl rfl rfl (wP rfl) <| qJ 8 rfl rfl rfl (qv rfl rfl) <| qJ 9 rfl rfl rfl (qv rfl rfl) <| qR 11 rfl <| wR rfl rfl rfl (qq (l := node0V) rfl rfl rfl hw'.len hw'.one) <| qJ 12 rfl rfl rfl (wM rfl) <| wG <| qW ⟨(b10, l', C'), ?_⟩ ?_
        · (try dsimp only); exact hw'
        · (try dsimp only); exact qX _
      ·
       refine qe rfl rfl rfl (qH rfl rfl) <| wy (i := 3) (j := 10) (by kernel_rfl) rfl ?_ ?_
       ·
        refine qe rfl rfl rfl (zZ (r := v) rfl (kT hv) hv) <| wy (i := 6) (j := 10) (by kernel_rfl) rfl ?_ ?_
        ·
         refine wB rfl rfl rfl (qx rfl (wc (C) (kU W v C hw a.n hnn (by omega) hsz.2))) ?_
         rintro t80 _ ⟨l', C', rfl, hw', rfl⟩
         refine qJ 7 rfl rfl rfl (wP rfl) <| qJ 8 rfl rfl rfl (qv rfl rfl) <| qJ 9 rfl rfl rfl (qv rfl rfl) <| qR 10 rfl <| wB rfl rfl rfl (qn) ?_
         rintro t10 _ ⟨b10, rfl, rfl⟩
         refine qR 11 rfl <| wR rfl rfl rfl (qq (l := node0V) rfl rfl rfl hw'.len hw'.one) <| qJ 12 rfl rfl rfl (wM rfl) <| wG <| qW ⟨(b10, l', C'), ?_⟩ ?_
         · (try dsimp only); exact hw'
         · (try dsimp only); exact qX _
        ·
         refine wB rfl rfl rfl (qn) ?_
         rintro t10 _ ⟨b10, rfl, rfl⟩
         refine qR 6 rfl <| wB rfl rfl rfl (qx rfl (wc (C) (kU W v C hw a.n hnn (by omega) hsz.2))) ?_
         rintro t80 _ ⟨l', C', rfl, hw', rfl⟩
         refine qJ 7 rfl rfl rfl (wP rfl) <| qJ 8 rfl rfl rfl (qv rfl rfl) <| qJ 9 rfl rfl rfl (qv rfl rfl) <| qR 11 rfl <| wR rfl rfl rfl (qq (l := node0V) rfl rfl rfl hw'.len hw'.one) <| qJ 12 rfl rfl rfl (wM rfl) <| wG <| qW ⟨(b10, l', C'), ?_⟩ ?_
         · (try dsimp only); exact hw'
         · (try dsimp only); exact qX _
       ·
        refine wB rfl rfl rfl (qn) ?_
        rintro t10 _ ⟨b10, rfl, rfl⟩
        refine qR 3 rfl <| qe rfl rfl rfl (zZ (r := v) rfl (kT hv) hv) <| qR 6 rfl <| wB rfl rfl rfl (qx rfl (wc (C) (kU W v C hw a.n hnn (by omega) hsz.2))) ?_
        rintro t80 _ ⟨l', C', rfl, hw', rfl⟩
        refine qJ 7 rfl rfl rfl (wP rfl) <| qJ 8 rfl rfl rfl (qv rfl rfl) <| qJ 9 rfl rfl rfl (qv rfl rfl) <| qR 11 rfl <| wR rfl rfl rfl (qq (l := node0V) rfl rfl rfl hw'.len hw'.one) <| qJ 12 rfl rfl rfl (wM rfl) <| wG <| qW ⟨(b10, l', C'), ?_⟩ ?_
        · (try dsimp only); exact hw'
        · (try dsimp only); exact qX _
      ·
       refine wB rfl rfl rfl (qn) ?_
       rintro t10 _ ⟨b10, rfl, rfl⟩
       refine wy (i := 3) (j := 5) (by kernel_rfl) rfl ?_ ?_
       ·
        refine qe rfl rfl rfl (zZ (r := v) rfl (kT hv) hv) <| qR 5 rfl <| qe rfl rfl rfl (qH rfl rfl) <| qR 6 rfl <| wB rfl rfl rfl (qx rfl (wc (C) (kU W v C hw a.n hnn (by omega) hsz.2))) ?_
        rintro t80 _ ⟨l', C', rfl, hw', rfl⟩
        refine qJ 7 rfl rfl rfl (wP rfl) <| qJ 8 rfl rfl rfl (qv rfl rfl) <| qJ 9 rfl rfl rfl (qv rfl rfl) <| qR 11 rfl <| wR rfl rfl rfl (qq (l := node0V) rfl rfl rfl hw'.len hw'.one) <| qJ 12 rfl rfl rfl (wM rfl) <| wG <| qW ⟨(b10, l', C'), ?_⟩ ?_
        · (try dsimp only); exact hw'
        · (try dsimp only); exact qX _
       ·
        refine qe rfl rfl rfl (qH rfl rfl) <| qR 3 rfl <| qe rfl rfl rfl (zZ (r := v) rfl (kT hv) hv) <| qR 6 rfl <| wB rfl rfl rfl (qx rfl (wc (C) (kU W v C hw a.n hnn (by omega) hsz.2))) ?_
        rintro t80 _ ⟨l', C', rfl, hw', rfl⟩
        refine qJ 7 rfl rfl rfl (wP rfl) <| qJ 8 rfl rfl rfl (qv rfl rfl) <| qJ 9 rfl rfl rfl (qv rfl rfl) <| qR 11 rfl <| wR rfl rfl rfl (qq (l := node0V) rfl rfl rfl hw'.len hw'.one) <| qJ 12 rfl rfl rfl (wM rfl) <| wG <| qW ⟨(b10, l', C'), ?_⟩ ?_
        · (try dsimp only); exact hw'
        · (try dsimp only); exact qX _
     rintro ⟨⟨y, l1, C1⟩, hcut⟩
     replace hcut : RefC ba bl (jl W a.n).2 l1 C1 := hcut
     have hw1 := hcut
     show Tr _ _ _ ([(0, .pointer (some ⟨x, 0, none⟩)), (9, .int .i64 (kA n D a.n).1), (10, .pointer (some ⟨y, 0, none⟩)), (11, .int .i64 (jl W a.n).1)]) ([(y, .cells l1.toArray 41 (0, 0))] :: StD x p v md nx dn od :: Cn' :: C1 :: G :: I :: F) _ _
     refine qP <| qB rfl <| q9 (wS rfl hw1.len) <| q9 (qQ rfl) <| q9 (qA rfl) <| qS (k3 (r := stV p l1 md nx dn) rfl rfl (WA hv hw1.len) (by rw [ja hv, hw1.len]; decide) hw1.len hw1.one) ?_
     refine qo <| qB rfl <| qB rfl <| q9 (wl rfl rfl) <| qD rfl <| qF <| qz <| wN <| kD <| wF (StD x p l1 md nx dn od :: Cn' :: C1 :: G :: I :: F) (.inl rfl) rfl (qu rfl) ?_
     have hc := trunc_cpl hP.cpl hI a.n
     exact ⟨congrArg Value.bool (decide_eq_true hc.1), p, md, l1, nx, od, _, _, D, Cn', C1, ba, bl, ⟨hc.2.1, hc.2.2, by push_cast; omega⟩, hn', hw1, hD, by rw [hdn]⟩
    ·
     refine qP <| q9 (wl rfl rfl) <| qD rfl <| qF <| qL rfl (fun hc15 => ?_) (fun hc15 => ?_)
     ·
      refine qP <| q9 (qA rfl) <| q9 (qH rfl rfl) <| q9 (YV rfl rfl) <| qD rfl <| qF <| qO <| wQ w8 <| wE [(96, .pure _), (97, .pure _), (98, .pure _), (99, .pure _), (100, .pure _), (101, .pure _), (102, .pure _), (103, .pure _), (104, .pure _)] (by kernel_rfl) rfl rfl rfl wd (qC rfl (fun X => qM rfl) <| qC rfl (fun X => qQ rfl) <| qC rfl (fun X => qA rfl) <| qC rfl (fun X => qH rfl jL) <| qC rfl (fun X => qA rfl) <| qC rfl (fun X => qH rfl rfl) <| qC rfl (fun X => qM rfl) <| qC rfl (fun X => qM rfl) <| qC rfl (fun X => wx rfl rfl) <| ParH.nil rfl) ?_
      dsimp only [zQ, List.drop, List.length]
      refine wu (by kernel_rfl) (qx rfl (k0 (Cn) (StD x p v md nx dn od) (lread_ok p n W Cn (StD x p v md nx dn od) hn a.at_ (min a.n 3000) _ D hrd hP.cpl hI (by omega) (by omega)))) ?_
      rintro t105 _ ⟨u1, C1, rfl, hs1, rfl⟩
      refine qm (by kernel_rfl) (qM rfl) ?_
      refine wE [(106, .pure _), (107, .pure _), (13, .pure _)] (by kernel_rfl) rfl rfl rfl wd (qC rfl (fun X => qi rfl rfl) <| qC rfl (fun X => qi rfl rfl) <| qC rfl (fun X => z8 rfl) <| ParH.nil rfl) ?_
      dsimp only [zQ, List.drop, List.length]
      refine qm (by kernel_rfl) (z8 rfl) ?_
      refine wI <| qI <| qO <| wQ w8 <| wE [(109, .pure _), (110, .pure _), (111, .pure _), (112, .pure _), (113, .pure _), (114, .pure _), (115, .pure _)] (by kernel_rfl) rfl rfl rfl wd (qC rfl (fun X => qM rfl) <| qC rfl (fun X => qQ rfl) <| qC rfl (fun X => qA rfl) <| qC rfl (fun X => zZ (r := v) rfl (kT hv) hv) <| qC rfl (fun X => qA rfl) <| qC rfl (fun X => qH rfl rfl) <| qC rfl (fun X => qM rfl) <| ParH.nil rfl) ?_
      dsimp only [zQ, List.drop, List.length]
      refine wu (by kernel_rfl) (qx rfl (wc (C) (lrread_ok W v C hw a.at_ (min a.n 3000) hat (by omega) hsz))) ?_
      rintro t116 _ ⟨u2, C2, rfl, hs2, rfl⟩
      refine qm (by kernel_rfl) (qM rfl) ?_
      refine wE [(117, .pure _), (118, .pure _), (15, .pure _)] (by kernel_rfl) rfl rfl rfl wd (qC rfl (fun X => qi rfl rfl) <| qC rfl (fun X => qi rfl rfl) <| qC rfl (fun X => z8 rfl) <| ParH.nil rfl) ?_
      dsimp only [zQ, List.drop, List.length]
      refine qm (by kernel_rfl) (z8 rfl) ?_
      refine wI <| qI <| qP <| qB rfl <| qB rfl <| q9 (wl rfl rfl) <| qB rfl <| qY (s := 122) rfl (fun hg19_3 => ?_) (fun hg19_3 => ?_)
      ·
       refine qE rfl rfl (qM rfl) <| qE rfl rfl (qM rfl) <| qE rfl rfl (wJ rfl (yj (C1) (C2) (equal_ok u1 u2 C1 C2 _ _ hs1 hs2 (by have := readB_len W a.at_ (min a.n 3000) (by omega); omega)))) ?_
       refine q9 (qk rfl rfl) <| qD rfl <| qF <| qz <| wN <| kD <| wF (StD x p v md nx dn od :: Cn :: C :: G :: I :: F) (.inl rfl) rfl (qu rfl) ?_
       exact ⟨congrArg Value.bool (decide_eq_true rfl), p, md, v, nx, od, n, W, D, Cn, C, ba, bl, hP.up, hn, hw, hD, by rw [hdn]⟩
      · exact absurd rfl hg19_3
     ·
      refine qP <| q9 (wl rfl rfl) <| qD rfl <| qF <| qL rfl (fun hc20 => ?_) (fun hc20 => ?_)
      ·
       refine qO ?_
       have hll := x5 W
       have hr : ∀ z ∈ jX nx (zh W).length, 1 ≤ z ∧ z ≤ 65535 := Jt hI.nx (by omega)
       obtain ⟨hcc1, hcc2, hcc3, hcc4⟩ := J6 hP.cpl hI rfl rfl (by omega) hr
       have hci := (J5 hI rfl rfl).1
       refine qK <| qB rfl <| qG (qx rfl (Q4 (StD x p v md nx dn od) (Cn) (C) (G) (Kr H HP x p md v nx dn od n W D Cn C G (zh W) (jX nx (zh W).length) rfl rfl hn hw hD hg hP.cpl.ok hP.fl (hP.cpl.parts hI.has) hP.cpl.num hP.cpl.ver hI.nx (by omega) (by omega) (by omega) hr hcc2 (hcc4 hP.cpl.ok hP.fl) hcc3))) ?_
       rintro t130 _ ⟨rfl, v', C', Cn', od', hn', hw', hD', rfl⟩
       refine qD rfl <| qF <| qz <| wN <| kD <| wF (StD x p v' md (nx + (zh W).length) dn od' :: Cn' :: C' :: G :: I :: F) (.inl rfl) rfl (qu rfl) ?_
       exact ⟨rfl, p, md, v', _, od', _, _, _, Cn', C', ba, bl, ⟨hcc1, hci, by push_cast; omega⟩, hn', hw', hD', by rw [hdn]⟩
      ·
       refine qP <| q9 (wl rfl rfl) <| qD rfl <| qF <| qL rfl (fun hc22 => ?_) (fun hc22 => ?_)
       ·
        refine qO ?_
        obtain ⟨n', hnc, hld⟩ : ∃ n', (zh W = [] → W.self.at_ ≠ 0 → Cpl n' W) ∧ (zh W = [] → W.self.at_ ≠ 0 → ∀ (w0 : World) (F : Res), FnT Tryz.prog w0 68 #[.agg (ww ((D W.self.at_).getD Sec.zero)).toArray, .int .i64 W.self.at_, .func (.func 11) #[.pointer (some ⟨x, 0, none⟩)] #[]] (StD x p v md nx dn od :: G :: F) (fun v' L' => ∃ p' Cn', v' = .tuple #[.pointer (some ⟨p', 0, none⟩), .int .i64 0] ∧ NodeC p' n' Cn' ∧ L' = Cn' :: StD x p v md nx dn od :: G :: F)) := by
          by_cases hc : zh W = [] ∧ W.self.at_ ≠ 0
          · obtain ⟨n', h1, h2⟩ := load_cpl hI (by omega) hc.1 hc.2
            exact ⟨n', fun _ _ => h1, fun _ _ w0 F => h2 w0 F _ G _ hg hrd⟩
          · exact ⟨n, fun h1 h2 => absurd ⟨h1, h2⟩ hc, fun h1 h2 => absurd ⟨h1, h2⟩ hc⟩
        refine qK <| qB rfl <| qG (qx rfl (Q4 (StD x p v md nx dn od) (Cn) (C) (G) (lload_ok x p md v nx dn hdn od n n' W D Cn C G hn hw hD hld))) ?_
        rintro t134 _ ⟨rfl, p', Cn', hn', rfl⟩
        refine qD rfl <| qF <| qz <| wN <| kD <| wF (StD x p' v md nx dn od :: Cn' :: C :: G :: I :: F) (.inl rfl) rfl (qu rfl) <| ⟨rfl, p', md, v, nx, od, _, W, D, Cn', C, ba, bl, ⟨?_, hI, by push_cast; omega⟩, hn', hw, hD, by rw [hdn]⟩
        split
        · rename_i hc; exact hnc hc.1 hc.2
        · exact hP.cpl
       ·
        refine qP <| q9 (wl rfl rfl) <| qD rfl <| qF <| qL rfl (fun hc24 => ?_) (fun hc24 => ?_)
        ·
         refine qP <| q9 (wa rfl) <| q9 (wa rfl) <| q9 (wa rfl) <| q9 (qA rfl) <| q9 (qH rfl rfl) <| q9 (xm rfl rfl) <| q9 (wa rfl) <| q9 (qA rfl) <| q9 (qH rfl rfl) <| q9 (xm rfl rfl) <| q9 (wa rfl) <| q9 (qA rfl) <| q9 (qH rfl rfl) <| q9 (xm rfl rfl) <| q9 (wa rfl) <| qG (wK rfl rfl rfl) ?_
         rintro t152 _ ⟨b152, rfl, rfl⟩
         refine qD rfl <| qF <| qO ?_
         obtain ⟨r, hr⟩ : ∃ r, a.at_.tmod 6 = r := ⟨_, rfl⟩
         have hr6 := tmod6 a.at_
         rw [hr] at hr6
         obtain ⟨j, hj⟩ : ∃ j : Nat, (r + 6) % 6 = j := ⟨((r + 6) % 6).toNat, by omega⟩
         obtain ⟨k, hk⟩ : ∃ k, (plA a)[j]? = some k := ⟨_, List.getElem?_eq_getElem (show j < 6 by omega)⟩
         have hkp := plA_ok a k (List.mem_of_getElem? hk)
         refine yx (L' := [(b152, .cells ((plA a).flatMap zP ++ []).toArray 65 (0, 0))] :: [(b3, .cells [.int .i64 a.kind, .int .i64 a.at_, .int .i64 a.n, .slice a.q a.bs.length a.c].toArray 25 (0, 0))] :: StD x p v md nx dn od :: Cn :: C :: G :: I :: F) (yW rfl) <| qK <| qB rfl <| q9 (qA rfl) <| q9 (qH rfl rfl) <| q9 (op_remt rfl rfl (by decide)) ?_
         rw [hr]
         refine q9 (w9 rfl rfl (by omega)) <| q9 (xD rfl rfl (by omega) (by omega)) <| q9 (qw (j := j) (off := j * 2) rfl rfl hj (by omega) (by simp)) ?_
         refine q9 (zC (j := j) y4 rfl hk rfl) <| qG (qn) ?_
         rintro t18 _ ⟨b18, rfl, rfl⟩
         refine qS (qq (l := [Value.int .i64 0, Value.int .i64 0]) (vs := zP k) rfl rfl rfl rfl rfl) <| qF <| qO <| wQ w8 <| wE [(161, .pure _), (162, .pure _), (163, .pure _), (164, .pure _), (165, .pure _)] (by kernel_rfl) rfl rfl rfl wd (qC rfl (fun X => qM rfl) <| qC rfl (fun X => qQ rfl) <| qC rfl (fun X => qA rfl) <| qC rfl (fun X => zZ (r := v) rfl (kT hv) hv) <| qC rfl (fun X => wS (l := zP k) rfl rfl) <| ParH.nil rfl) ?_
         dsimp only [zQ, List.drop, List.length]
         refine qm (by kernel_rfl) (wJ rfl (zS (C) (YR W v C hw k hkp))) ?_
         refine qm (by kernel_rfl) (z8 rfl) ?_
         refine wI <| qI <| qO ?_
         have hmc := move_cpl hP.cpl hI hkp (qy W k)
         have hmv := fun (F : Res) => Vq (w0 := w0) (F := F) H HP p n Cn (StD x p v md nx dn od) G hn hg hP.cpl.ok k (qy W k) _ D hrd
         rw [hP.cpl.num, hP.cpl.ver] at hmv
         have hlv := fun (w0 : World) (F : Res) => rlive_ok (w0 := w0) (F := F) W v C hw k hkp (qy W k)
         rw [hI.num, hI.ver] at hlv
         refine wQ w8 <| wE [(168, .pure _), (169, .pure _), (170, .pure _), (171, .pure _), (172, .pure _), (173, .pure _), (174, .pure _), (175, .pure _), (176, .pure _), (177, .pure _)] (by kernel_rfl) rfl rfl rfl wd (qC rfl (fun X => qM rfl) <| qC rfl (fun X => qQ rfl) <| qC rfl (fun X => qA rfl) <| qC rfl (fun X => qH rfl jL) <| qC rfl (fun X => qM rfl) <| qC rfl (fun X => wS (l := zP k) rfl rfl) <| qC rfl (fun X => wJ rfl (zS (StD x p v md nx dn od) (YZ x p md v nx dn od W C hw k))) <| qC rfl (fun X => qM rfl) <| qC rfl (fun X => qM rfl) <| qC rfl (fun X => wx rfl rfl) <| ParH.nil rfl) ?_
         dsimp only [zQ, List.drop, List.length]
         refine wu (by kernel_rfl) (qx rfl (ku (Cn) (StD x p v md nx dn od) (G) (hmv _))) ?_
         rintro t178 _ ⟨Cn', rfl, hn', rfl⟩
         refine qm (by kernel_rfl) (qM rfl) ?_
         refine wE [(179, .pure _), (180, .pure _), (20, .pure _)] (by kernel_rfl) rfl rfl rfl wd (qC rfl (fun X => qi rfl rfl) <| qC rfl (fun X => qi rfl rfl) <| qC rfl (fun X => z8 rfl) <| ParH.nil rfl) ?_
         dsimp only [zQ, List.drop, List.length]
         refine qm (by kernel_rfl) (z8 rfl) ?_
         refine wI <| qI <| qO <| wQ w8 <| wE [(181, .pure _), (182, .pure _), (183, .pure _), (184, .pure _), (185, .pure _), (186, .pure _), (187, .pure _), (188, .pure _), (189, .pure _), (190, .pure _)] (by kernel_rfl) rfl rfl rfl wd (qC rfl (fun X => qM rfl) <| qC rfl (fun X => qQ rfl) <| qC rfl (fun X => qA rfl) <| qC rfl (fun X => zZ (r := v) rfl (kT hv) hv) <| qC rfl (fun X => qA rfl) <| qC rfl (fun X => qH rfl rfl) <| qC rfl (fun X => qA rfl) <| qC rfl (fun X => qH rfl rfl) <| qC rfl (fun X => wa rfl) <| qC rfl (fun X => qM rfl) <| ParH.nil rfl) ?_
         dsimp only [zQ, List.drop, List.length]
         refine qm (by kernel_rfl) (wJ rfl (zS (C) (hlv w0 _))) ?_
         refine qm (by kernel_rfl) (z8 rfl) ?_
         refine wI <| qI <| zb (Γ := {pΓ : (RS) × (List Value) × (qV) // (fun (W1 : RS) (l1 : List Value) (C1 : qV) => RefC ba bl W1 l1 C1 ∧ W1 = (if xf W k (qy W k) then yX W k else W)) pΓ.1 pΓ.2.1 pΓ.2.2}) (fun g => (fun (W1 : RS) (l1 : List Value) (C1 : qV) => [(20, .bool (decide (xf W k (qy W k)))), (21, .int .i64 0), (22, .bool (decide (xf W k (qy W k))))]) g.1.1 g.1.2.1 g.1.2.2) (fun g => (fun (W1 : RS) (l1 : List Value) (C1 : qV) => StD x p l1 md nx dn od :: Cn' :: C1 :: G :: I :: F) g.1.1 g.1.2.1 g.1.2.2) ?_ ?_
         ·
          refine qO ?_
          rw [hmc.1]
          refine qK <| qB rfl <| qF <| qL rfl (fun hc30 => ?_) (fun hc30 => ?_)
          ·
           refine yT w8 (show TrS _ _ _ _ [false, false, false, false, false, false, false, false, false, false] _ _ _ from ?_)
           refine qJ 0 rfl rfl rfl (wP rfl) <| qJ 1 rfl rfl rfl (wP rfl) <| qJ 2 rfl rfl rfl (zw rfl) <| qJ 3 rfl rfl rfl (wn rfl) <| wy (i := 4) (j := 5) (by kernel_rfl) rfl ?_ ?_
           ·
            refine qe rfl rfl rfl (zZ (r := v) rfl (kT hv) hv) <| qR 5 rfl <| qe rfl rfl rfl (wS (l := zP k) rfl rfl) <| qR 6 rfl <| wB rfl rfl rfl (qx rfl (wc (C) (Xo W v C hw k hkp))) ?_
            rintro t199 _ ⟨l', C', rfl, hw', rfl⟩
            refine qJ 7 rfl rfl rfl (zw rfl) <| qJ 8 rfl rfl rfl (wn rfl) <| qR 9 rfl <| wR rfl rfl rfl (k3 (r := stV p l' md nx dn) rfl rfl (WA hv hw'.len) (by rw [ja hv, hw'.len]; decide) hw'.len hw'.one) ?_
            refine wG <| qW ⟨(yX W k, l', C'), ?_⟩ ?_
            · (try dsimp only); exact ⟨hw', by rw [if_pos hc30]⟩
            · (try dsimp only); exact qX _
           ·
            refine qe rfl rfl rfl (wS (l := zP k) rfl rfl) <| qR 4 rfl <| qe rfl rfl rfl (zZ (r := v) rfl (kT hv) hv) <| qR 6 rfl <| wB rfl rfl rfl (qx rfl (wc (C) (Xo W v C hw k hkp))) ?_
            rintro t199 _ ⟨l', C', rfl, hw', rfl⟩
            refine qJ 7 rfl rfl rfl (zw rfl) <| qJ 8 rfl rfl rfl (wn rfl) <| qR 9 rfl <| wR rfl rfl rfl (k3 (r := stV p l' md nx dn) rfl rfl (WA hv hw'.len) (by rw [ja hv, hw'.len]; decide) hw'.len hw'.one) ?_
            refine wG <| qW ⟨(yX W k, l', C'), ?_⟩ ?_
            · (try dsimp only); exact ⟨hw', by rw [if_pos hc30]⟩
            · (try dsimp only); exact qX _
          ·
           refine qZ <| qW ⟨(W, v, C), ?_⟩ ?_
           · (try dsimp only); exact ⟨hw, by rw [if_neg hc30]⟩
           · (try dsimp only); exact qX _
         rintro ⟨⟨W1, l1, C1⟩, hcut⟩
         replace hcut : RefC ba bl W1 l1 C1 ∧ W1 = (if xf W k (qy W k) then yX W k else W) := hcut
         obtain ⟨hw1, hW1⟩ := hcut
         show Tr _ _ _ ([(20, .bool (decide (xf W k (qy W k)))), (21, .int .i64 0), (22, .bool (decide (xf W k (qy W k))))]) (StD x p l1 md nx dn od :: Cn' :: C1 :: G :: I :: F) _ _
         refine qP <| qB rfl <| q9 (wl rfl rfl) <| qB rfl <| qY (s := 204) rfl (fun hg32_2 => ?_) (fun hg32_2 => ?_)
         ·
          refine qE rfl rfl (qM rfl) <| qE rfl rfl (qM rfl) <| qE rfl rfl (op_eqlB rfl rfl Tryz.underlying4) <| q9 (qk rfl rfl) <| qD rfl <| qF <| qz <| wN <| kD <| wF (StD x p l1 md nx dn od :: Cn' :: C1 :: G :: I :: F) (.inl rfl) rfl (qu rfl) ?_
          exact ⟨by simp, p, md, l1, nx, od, _, _, D, Cn', C1, ba, bl, ⟨by rw [hW1]; exact hmc.2.1, by rw [hW1]; exact hmc.2.2, by push_cast; omega⟩, hn', hw1, hD, by rw [hdn]⟩
         · exact absurd rfl hg32_2
        ·
         refine qP <| q9 (wl rfl rfl) <| qD rfl <| qF <| qL rfl (fun hc33 => ?_) (fun hc33 => ?_)
         ·
          refine qO ?_
          have hmk := Wv a.n (M := 7) (by omega) (by omega)
          refine wQ w8 <| wE [(211, .pure _), (212, .pure _), (213, .pure _), (214, .pure _), (215, .pure _), (216, .pure _), (217, .pure _), (218, .pure _)] (by kernel_rfl) rfl rfl rfl wd (qC rfl (fun X => qM rfl) <| qC rfl (fun X => qQ rfl) <| qC rfl (fun X => qA rfl) <| qC rfl (fun X => qH rfl jL) <| qC rfl (fun X => qA rfl) <| qC rfl (fun X => qH rfl rfl) <| qC rfl (fun X => xm rfl rfl) <| qC rfl (fun X => zJ rfl (by simp [IntKind.min, IntKind.max, IntKind.bits, IntKind.signed]; omega)) <| ParH.nil rfl) ?_
          dsimp only [zQ, List.drop, List.length]
          refine wu (by kernel_rfl) (qx rfl (k0 (Cn) (G) (setTime_ok p n Cn G hn hg (zH .and .i64 a.n 7)))) ?_
          rintro t219 _ ⟨rfl, Cn', hn', rfl⟩
          refine wI <| qI <| yT w8 (show TrS _ _ _ _ [false, false, false, false, false, false, false, false, false, false, false, false, false] _ _ _ from ?_)
          refine qJ 0 rfl rfl rfl (wP rfl) <| qJ 1 rfl rfl rfl (wP rfl) <| qJ 2 rfl rfl rfl (zw rfl) <| qJ 3 rfl rfl rfl (wn rfl) <| qJ 5 rfl rfl rfl (wn rfl) <| wy (i := 4) (j := 6) (by kernel_rfl) rfl ?_ ?_
          ·
           refine qe rfl rfl rfl (zZ (r := v) rfl (kT hv) hv) <| qR 6 rfl <| qe rfl rfl rfl (qH rfl rfl) <| qR 7 rfl <| qe rfl rfl rfl (xm rfl rfl) <| qR 8 rfl <| qe rfl rfl rfl (zJ rfl (by simp [IntKind.min, IntKind.max, IntKind.bits, IntKind.signed]; omega)) ?_
           refine qR 9 rfl <| wB rfl rfl rfl (qx rfl (wc (C) (QO W v C hw (zH .and .i64 a.n 7)))) ?_
           rintro t229 _ ⟨l', C', rfl, hw', rfl⟩
           refine qJ 10 rfl rfl rfl (zw rfl) <| qJ 11 rfl rfl rfl (wn rfl) <| qR 12 rfl <| wR rfl rfl rfl (k3 (r := stV p l' md nx dn) rfl rfl (WA hv hw'.len) (by rw [ja hv, hw'.len]; decide) hw'.len hw'.one) ?_
           refine wG <| qf <| qW ⟨(jR n (zH .and .i64 a.n 7), j9 W (zH .and .i64 a.n 7), l', Cn', C'), ?_⟩ ?_
           · (try dsimp only); exact ⟨hn', hw', Zj hP.cpl hI _ (by omega)⟩
           · (try dsimp only); exact qX _
          ·
           refine qe rfl rfl rfl (qH rfl rfl) <| wy (i := 4) (j := 7) (by kernel_rfl) rfl ?_ ?_
           ·
            refine qe rfl rfl rfl (zZ (r := v) rfl (kT hv) hv) <| qR 7 rfl <| qe rfl rfl rfl (xm rfl rfl) <| qR 8 rfl <| qe rfl rfl rfl (zJ rfl (by simp [IntKind.min, IntKind.max, IntKind.bits, IntKind.signed]; omega)) ?_
            refine qR 9 rfl <| wB rfl rfl rfl (qx rfl (wc (C) (QO W v C hw (zH .and .i64 a.n 7)))) ?_
            rintro t229 _ ⟨l', C', rfl, hw', rfl⟩
            refine qJ 10 rfl rfl rfl (zw rfl) <| qJ 11 rfl rfl rfl (wn rfl) <| qR 12 rfl <| wR rfl rfl rfl (k3 (r := stV p l' md nx dn) rfl rfl (WA hv hw'.len) (by rw [ja hv, hw'.len]; decide) hw'.len hw'.one) ?_
            refine wG <| qf <| qW ⟨(jR n (zH .and .i64 a.n 7), j9 W (zH .and .i64 a.n 7), l', Cn', C'), ?_⟩ ?_
            · (try dsimp only); exact ⟨hn', hw', Zj hP.cpl hI _ (by omega)⟩
            · (try dsimp only); exact qX _
           ·
            refine qe rfl rfl rfl (xm rfl rfl) <| wy (i := 4) (j := 8) (by kernel_rfl) rfl ?_ ?_
            ·
             refine qe rfl rfl rfl (zZ (r := v) rfl (kT hv) hv) <| qR 8 rfl <| qe rfl rfl rfl (zJ rfl (by simp [IntKind.min, IntKind.max, IntKind.bits, IntKind.signed]; omega)) ?_
             refine qR 9 rfl <| wB rfl rfl rfl (qx rfl (wc (C) (QO W v C hw (zH .and .i64 a.n 7)))) ?_
             rintro t229 _ ⟨l', C', rfl, hw', rfl⟩
             refine qJ 10 rfl rfl rfl (zw rfl) <| qJ 11 rfl rfl rfl (wn rfl) <| qR 12 rfl <| wR rfl rfl rfl (k3 (r := stV p l' md nx dn) rfl rfl (WA hv hw'.len) (by rw [ja hv, hw'.len]; decide) hw'.len hw'.one) ?_
             refine wG <| qf <| qW ⟨(jR n (zH .and .i64 a.n 7), j9 W (zH .and .i64 a.n 7), l', Cn', C'), ?_⟩ ?_
             · (try dsimp only); exact ⟨hn', hw', Zj hP.cpl hI _ (by omega)⟩
             · (try dsimp only); exact qX _
            ·
             refine qe rfl rfl rfl (zJ rfl (by simp [IntKind.min, IntKind.max, IntKind.bits, IntKind.signed]; omega)) ?_
             refine qR 4 rfl <| qe rfl rfl rfl (zZ (r := v) rfl (kT hv) hv) <| qR 9 rfl <| wB rfl rfl rfl (qx rfl (wc (C) (QO W v C hw (zH .and .i64 a.n 7)))) ?_
             rintro t229 _ ⟨l', C', rfl, hw', rfl⟩
             refine qJ 10 rfl rfl rfl (zw rfl) <| qJ 11 rfl rfl rfl (wn rfl) <| qR 12 rfl <| wR rfl rfl rfl (k3 (r := stV p l' md nx dn) rfl rfl (WA hv hw'.len) (by rw [ja hv, hw'.len]; decide) hw'.len hw'.one) ?_
             refine wG <| qf <| qW ⟨(jR n (zH .and .i64 a.n 7), j9 W (zH .and .i64 a.n 7), l', Cn', C'), ?_⟩ ?_
             · (try dsimp only); exact ⟨hn', hw', Zj hP.cpl hI _ (by omega)⟩
             · (try dsimp only); exact qX _
         ·
          refine qZ <| qf <| qW ⟨(n, W, v, Cn, C), ?_⟩ ?_
          · (try dsimp only); exact ⟨hn, hw, hP.cpl, hI⟩
          · (try dsimp only); exact qX _
  rintro ⟨⟨n1, W1, l1, Cn1, C1⟩, hcut⟩
  replace hcut : NodeC p n1 Cn1 ∧ RefC ba bl W1 l1 C1 ∧ Cpl n1 W1 ∧ Inv W1 D nx := hcut
  obtain ⟨hn1, hw1, hc1, hI1⟩ := hcut
  show Tr _ _ _ ([]) (StD x p l1 md nx dn od :: Cn1 :: C1 :: G :: I :: F) _ _
  refine qP <| qD rfl <| qF <| qz <| wF (StD x p l1 md nx dn od :: Cn1 :: C1 :: G :: I :: F) (.inl rfl) rfl (qu rfl) ?_
  exact ⟨rfl, p, md, l1, nx, od, n1, W1, D, Cn1, C1, ba, bl, ⟨hc1, hI1, by push_cast; omega⟩, hn1, hw1, hD, by rw [hdn]⟩
end
end Go.Proofs.YtjikpomndbkfgaaGreatDoor
namespace Go.Sx
open Go
section
variable {P : Program} {N : Nat} {w0 : World} {E : Env} {L : Res}
theorem op_convBytes {x : Operand} {t ty e b n c : Nat} {l : List Value} {et : TypeId} {S : Obj → Res} (hx : opv E x = some (.slice (some ⟨b, 0, none⟩) n c)) (ht : P.underlying t = some (.slice e)) (he : P.underlying e = some (.int .u8)) [ha : At L b (.cells l.toArray et (0, 0)) S] :
    Op1 P N w0 E L (.convert t t x) ty (.slice (some ⟨b, 0, none⟩) n c) (S (.cells l.toArray et (l.length, l.length + 1))) :=
  .of_run fun o a w h1 _ h3 h4 => by
    have hb := h4.get ha
    have hlt : b < w.heap.size := (Array.getElem?_eq_some_iff.1 hb).1
    have hsh : w.shape? b = some (et, l.length) := by simp [World.shape?, hb]
    refine ⟨w.freeze ⟨b, l.length, none⟩ 1, ?_, ?_⟩
    · rw [execOp, h1]
      simp [h3.eval hx, convert, wA ht, wA he, markStringish, hsh]
    · have hfz : w.freeze ⟨b, l.length, none⟩ 1 = { w with heap := w.heap.modify b fun
          | .cells c elem (lo, hi) => .cells c elem (if lo == hi then (l.length, l.length + 1) else (min lo l.length, max hi (l.length + 1)))
          | o => o } := by unfold World.freeze; rw [if_neg (by decide)]; rfl
      rw [hfz]
      refine h4.setAt ha _ rfl rfl rfl (by simp) ?_ (fun k hk => ?_)
      · show (w.heap.modify b _)[b]? = _
        rw [Array.getElem?_modify, if_pos rfl, hb]; rfl
      · show (w.heap.modify b _)[k]? = _
        rw [Array.getElem?_modify, if_neg (Ne.symm hk)]
end
end Go.Sx
namespace Go.Proofs.YtjikpomndbkfgaaGreatDoor
open Go Go.Sx Go.Nd
set_option maxRecDepth 10000
section
variable {w0 : World} {L F : Res} {ba bl : Nat}
def wAw : RS := (ke (Wj 3 7 1) 1100 [97, 98]).2
theorem cut1100 : j3 1100 2 = [(8, 76, 78)] := by decide
theorem KQ : ke (Wj 3 7 1) 1100 [97, 98] = (0, { Wj 3 7 1 with all := j7 [(8, 76, 78)] [97, 98] (Wj 3 7 1).all, size := 1102 }) := by
  unfold ke
  rw [if_neg (by decide), show (([97, 98] : List Int).length : Int) = 2 from rfl, cut1100]
  rfl
theorem Q5 (i : Int) : (wAw.all i).fresh = true ↔ i = 8 := by
  unfold wAw; rw [KQ]
  show (j7 [(8, 76, 78)] [97, 98] (Wj 3 7 1).all i).fresh = true ↔ _
  rw [(W9 _ _ _ i).2]
  constructor
  · rintro (h | ⟨q, hq, e⟩)
    · cases h
    · rw [List.mem_singleton] at hq; subst hq; exact e.symm
  · intro e; exact .inr ⟨_, List.mem_singleton.2 rfl, e.symm⟩
theorem X6 (i : Int) : (wAw.all i).has = true ↔ i = 8 := by
  unfold wAw; rw [KQ]
  show (j7 [(8, 76, 78)] [97, 98] (Wj 3 7 1).all i).has = true ↔ _
  rw [(W9 _ _ _ i).1]
  constructor
  · rintro (h | ⟨q, hq, e⟩)
    · cases h
    · rw [List.mem_singleton] at hq; subst hq; exact e.symm
  · intro e; exact .inr ⟨_, List.mem_singleton.2 rfl, e.symm⟩
theorem Va : zF 8 = (3, 0) := by decide
theorem VO {k : Int × Int} (hk : wC k) (h1 : k.1 ≠ 1) : zG wAw k = true ↔ k = (2, 0) := by
  unfold wAw; rw [KQ]
  rcases wT hk with ⟨i, hi, rfl⟩ | rfl | rfl | rfl | ⟨j, hj, rfl⟩
  · exact absurd rfl h1
  · exact ⟨fun _ => rfl, fun _ => rfl⟩
  · exact ⟨fun h => (by cases h), fun h => (by cases h)⟩
  · exact ⟨fun h => (by cases h), fun h => (by cases h)⟩
  · exact ⟨fun h => (by cases h), fun h => (by cases h)⟩
theorem wAw_pend : zh wAw = [(1, 8), (3, 0), (2, 0)] := by
  classical
  rw [Zq]
  symm
  refine WU (out := [(1, 8), (3, 0), (2, 0)]) (by decide) (fun k => ?_) (List.Perm.refl _) (by decide)
  rw [decide_eq_true_eq]
  have h8 : InB 8 := by unfold InB; omega
  have hcl : ¬ chL wAw := by
    rintro ⟨j, h0, h1, h | ⟨i, hi, hf, ha⟩⟩
    · have := (VO (yF ⟨h0, h1⟩) (by simp)).1 h; cases this
    · rw [(Q5 i).1 hf, Va] at ha; cases ha
  constructor
  · intro h
    simp only [List.mem_cons, List.not_mem_nil, or_false] at h
    rcases h with rfl | rfl | rfl
    · exact ⟨yH h8, jN.2 ((Q5 8).2 rfl)⟩
    · exact ⟨zl, XF h8 ((Q5 8).2 rfl) ((X6 8).2 rfl) zl (by decide) (.inr (.inr Va))⟩
    · exact ⟨yN, XF h8 ((Q5 8).2 rfl) ((X6 8).2 rfl) yN (by decide) (.inl rfl)⟩
  · rintro ⟨hk, h⟩
    rcases wT hk with ⟨i, hi, rfl⟩ | rfl | rfl | rfl | ⟨j, hj, rfl⟩
    · have := (Q5 i).1 (jN.1 h); subst this; simp
    · simp
    · simp
    · unfold prR at h; rw [if_neg (by decide), if_neg (by decide), if_neg (by decide), if_pos rfl] at h
      rcases h.1 with h | h
      · have := (VO zp (by decide)).1 h; cases this
      · exact absurd h hcl
    · unfold prR at h; rw [if_neg (by simp), if_pos rfl] at h
      rcases h.1 with h | ⟨i, hi, hf, ha⟩
      · have := (VO (yF hj) (by simp)).1 h; cases this
      · rw [(Q5 i).1 hf, Va] at ha; cases ha
theorem wAw_idx : Qu wAw = [8] := by
  have h1 : (Qu wAw).Pairwise (· < ·) := (xv 1064).sublist List.filter_sublist
  have h2 : ∀ i, i ∈ Qu wAw ↔ i ∈ ([8] : List Int) := fun i => by
    rw [Qs, List.mem_singleton, X6]
    constructor
    · exact fun h => h.2
    · intro h; exact ⟨by rw [h]; unfold InB; omega, h⟩
  refine List.Perm.eq_of_pairwise (le := fun a b : Int => a < b) (fun a b _ _ h3 h4 => by omega) h1 (by simp) ?_
  exact (List.perm_ext_iff_of_nodup (h1.imp (fun h => Int.ne_of_lt h)) (by simp)).2 h2
theorem cost8 : MP [8] = 3 := by decide
theorem awake_ok (H : jJ w0) (HP : xo) (G : qV) (hg : kn G) : FnT Tryz.prog w0 6 #[] (G :: F) (fun v L' => v = .bool true ∧ L' = G :: F) := by
  have hrd := fun (x p md : Nat) (v : List Value) (od : Obj) (hv : v.length = 14) (hD : MapF (Value.int .i64) jH (fun _ => none) od) => Qb x p md v 100 false od (fun _ => none) hv hD
  simp only [V2] at hrd
  obtain ⟨hc0, hi0⟩ := Kw
  obtain ⟨he, hc1, hi1⟩ := JP hc0 hi0 1100 [97, 98] (by decide)
  rw [show (ke (Wj 3 7 1) 1100 [97, 98]).1 = 0 from by rw [KQ]] at he
  rw [show (ke (Wj 3 7 1) 1100 [97, 98]).2 = wAw from rfl] at hc1 hi1
  obtain ⟨n1, hn1⟩ : ∃ n1, (kv (Zv 3 7 1) (fun _ => none) 1100 [97, 98]).2 = n1 := ⟨_, rfl⟩
  rw [hn1] at hc1
  have hp1 : yE n1 = [(1, 8), (3, 0), (2, 0)] := (hc1.parts hi1.has).trans wAw_pend
  have hx1 : jI n1 = [8] := (hc1.idx hi1.has).trans wAw_idx
  have hs1 : n1.size = 1102 := by rw [hc1.size]; unfold wAw; rw [KQ]
  refine qh (E0 := []) (N := 69) Tryz.func6 rfl rfl rfl rfl ?_
  refine qP <| qD rfl <| qo <| qG (qx rfl (wc (G) (VF G hg))) ?_
  rintro t6 _ ⟨x, p, md, ba, bl, v, C, Cn, od, rfl, hn, hw, hD, rfl⟩
  refine qB rfl <| q9 (qi rfl rfl) <| q9 (qi rfl rfl) <| qD rfl <| qD rfl <| qF <| qO <| qP <| qB rfl <| q9 (kN rfl) <| qF <| wU rfl <| qZ <| qI <| qP <| qB rfl <| q9 (qQ rfl) <| q9 (qA rfl) <| q9 (qH rfl jL) <| qG (wK rfl rfl rfl) ?_
  rintro t15 _ ⟨b15, rfl, rfl⟩
  refine q9 (op_convBytes rfl Tryz.underlying23 Tryz.underlying5) <| qB rfl <| q9 (wx rfl rfl) <| qG (qx rfl (k0 (Cn) (StD x p v md 100 false od) (Qa p (Zv 3 7 1) Cn (StD x p v md 100 false od) hn 1100 (some ⟨b15, 0, none⟩) 2 [97, 98] _ (fun _ => none) (hrd x p md v od hw.len hD) (by decide) (by decide) (by decide) (by decide) (by decide) (fun h => by cases h) (fun A => ⟨_, _, rfl, rfl, .inr ⟨b15, 0, (u8s [97, 98]).toArray, 5, (2, 3), rfl, List.mem_flatten.2 ⟨[(b15, .cells (u8s [97, 98]).toArray 5 (2, 3))], by simp [u8s], by simp⟩, rfl⟩⟩)))) ?_
  rintro t19 _ ⟨Cn', rfl, hn', rfl⟩
  rw [he, hn1] at *
  refine qD rfl <| qo <| qB rfl <| q9 (qQ rfl) <| q9 (qA rfl) <| q9 (qH rfl jL) <| qG (qx rfl (k0 (Cn') (G) (ZW H HP p n1 Cn' G hn' hg hc1.ok))) ?_
  rintro t24 _ ⟨Cp, hsp, rfl⟩
  refine qD rfl <| qT ?_
  rw [hp1] at hsp
  replace hsp : SlC 62 4 t24 3 (([(1, 8), (3, 0), (2, 0)] : List (Int × Int)).flatMap (Qg n1.num n1.ver)) Cp := hsp
  obtain ⟨pp, cp, hvp⟩ := hsp.slice
  refine qI <| qO ?_
  rcases hsp with ⟨-, h0, -⟩ | ⟨bP, capP, spP, rfl, hcsP, rfl, hcapP, hncP⟩
  · cases h0
  refine qK <| qB rfl <| q9 (wl rfl rfl) <| qB rfl <| qY (s := 27) rfl (fun hg6_2 => ?_) (fun hg6_2 => ?_)
  ·
   refine qE rfl rfl (qM rfl) <| qE rfl rfl (qQ rfl) <| qE rfl rfl (qA rfl) <| qE rfl rfl (qH rfl jL) <| qE rfl rfl (wJ rfl (zS (Cn') (XC p n1 Cn' hn'))) <| qE rfl rfl (wl rfl rfl) <| q9 (qk rfl rfl) <| qB rfl <| qY (s := 35) rfl (fun hg6_10 => ?_) (fun hg6_10 => ?_)
   ·
    refine qE rfl rfl (qM rfl) <| qE rfl rfl (wD rfl) <| qE rfl rfl (wl rfl rfl) <| q9 (qk rfl rfl) <| qB rfl <| qY (s := 40) rfl (fun hg6_15 => ?_) (fun hg6_15 => ?_)
    ·
     refine qE rfl rfl (qM rfl) <| qE rfl rfl (qw (j := 0) (off := 0) rfl rfl rfl (by decide) rfl) <| qE rfl rfl (w6 rfl) <| qE rfl rfl (qH rfl rfl) <| qE rfl rfl (wl rfl rfl) <| q9 (qk rfl rfl) <| qB rfl <| qY (s := 47) rfl (fun hg6_22 => ?_) (fun hg6_22 => ?_)
     ·
      refine qE rfl rfl (qM rfl) <| qE rfl rfl (qw (j := 1) (off := 4) rfl rfl rfl (by decide) rfl) <| qE rfl rfl (w6 rfl) <| qE rfl rfl (qH rfl rfl) <| qE rfl rfl (wl rfl rfl) <| q9 (qk rfl rfl) <| qB rfl <| qY (s := 54) rfl (fun hg6_29 => ?_) (fun hg6_29 => ?_)
      ·
       refine qE rfl rfl (qM rfl) <| qE rfl rfl (qw (j := 2) (off := 8) rfl rfl rfl (by decide) rfl) <| qE rfl rfl (w6 rfl) <| qE rfl rfl (qH rfl rfl) <| qE rfl rfl (wl rfl rfl) <| q9 (qk rfl rfl) <| qB rfl <| qY (s := 61) rfl (fun hg6_36 => ?_) (fun hg6_36 => ?_)
       ·
        refine qE rfl rfl (qM rfl) <| qE rfl rfl (qQ rfl) <| qE rfl rfl (qA rfl) <| qE rfl rfl (qH rfl jL) <| qE rfl rfl (wJ rfl (zS (Cn') (Y7 H p n1 Cn' hn' hc1.ok))) <| qE rfl rfl (wl rfl rfl) <| q9 (qk rfl rfl) <| qD rfl <| qF <| qz <| wF (G :: F) (.inl rfl) rfl (qu rfl) ?_
        exact ⟨by rw [hx1, cost8]; rfl, rfl⟩
       · exact absurd rfl hg6_36
      · exact absurd rfl hg6_29
     · exact absurd rfl hg6_22
    · exact absurd rfl hg6_15
   · exact absurd hs1 hg6_10
  · exact absurd rfl hg6_2
section
variable {W : RS} {D : Int → Option Sec} {nx : Int}
end
theorem YH (a : Z1) : (Ym a).length = 4 := rfl
structure Xd (R : Res) (q : Option Addr) (c : Nat) (acts : List Z1) : Prop where
  ok : ∀ a ∈ acts, X4 R a
  reads : ∀ w0, Reads w0 R (.slice q acts.length c) acts.length 4 (acts.flatMap Ym)
theorem act_at (w0 : World) {R : Res} {q : Option Addr} {c : Nat} {acts : List Z1} (h : Xd R q c acts) {i : Nat} {a : Z1} (ha : acts[i]? = some a) :
    ∃ b off cs e fr, q = some ⟨b, off, none⟩ ∧ (b, Obj.cells cs e fr) ∈ R.flatten ∧ (cs.toList.drop (off + i * 4)).take 4 = Ym a ∧ off + i * 4 + 4 ≤ cs.size := by
  have hlt := (List.getElem?_eq_some_iff.1 ha).1
  obtain ⟨p, c', h1, h2, h3⟩ := (h.reads w0).h
  cases h1
  rcases h3 with h3 | ⟨b, off, cs, e, fr, rfl, h4, h5⟩
  · omega
  · refine ⟨b, off, cs, e, fr, rfl, h4, ?_, ?_⟩
    · have := Qv YH acts [] ha
      rw [List.append_nil, ← h5, List.drop_take, List.take_take, Nat.min_eq_left (by omega), List.drop_drop] at this
      exact this
    · have h6 := congrArg List.length h5
      rw [List.length_take, List.length_drop, ka YH] at h6
      have : cs.toList.length = cs.size := Array.length_toList
      omega
end
end Go.Proofs.YtjikpomndbkfgaaGreatDoor
namespace Go.Sx
open Go Go.RowKit
def Y1 (B : Nat) (W : World) : qV := (List.range' B (W.heap.size - B)).map fun i => (i, (W.heap[i]?).getD (.cells #[] 0 (0, 0)))
theorem heapC_mem {B i : Nat} {W : World} {o : Obj} (hi : B ≤ i) (h : W.heap[i]? = some o) : (i, o) ∈ Y1 B W := by
  have hlt := (Array.getElem?_eq_some_iff.1 h).1
  refine List.mem_map.2 ⟨i, List.mem_range'_1.2 ⟨hi, by omega⟩, by rw [h]; rfl⟩
theorem heapC_at {B : Nat} {W : World} {p : Vc} (h : p ∈ Y1 B W) : W.heap[p.1]? = some p.2 ∧ B ≤ p.1 := by
  obtain ⟨i, hi, rfl⟩ := List.mem_map.1 h
  have := List.mem_range'_1.1 hi
  have hlt : i < W.heap.size := by omega
  exact ⟨by show W.heap[i]? = some ((W.heap[i]?).getD _); rw [Array.getElem?_eq_getElem hlt]; rfl, this.1⟩
theorem own_all {B : Nat} {W : World} {G : qV} (hG : G.map (·.1) = List.range B) (hat : ∀ p ∈ G, W.heap[p.1]? = some p.2) : Own { W with drawn := 0 } (G :: Y1 B W :: []) W := by
  refine ⟨rfl, rfl, rfl, Nat.zero_le _, Nat.le_refl _, ?_, fun p hp => ?_⟩
  · have e : (Y1 B W).map (·.1) = List.range' B (W.heap.size - B) := by
      unfold Y1; rw [List.map_map]; exact (List.map_congr_left fun i _ => rfl).trans (List.map_id _)
    simp only [List.flatten_cons, List.flatten_nil, List.append_nil, List.map_append, hG, e]
    rw [List.nodup_append]
    refine ⟨List.nodup_range, List.nodup_range', fun a ha b hb => ?_⟩
    have := List.mem_range.1 ha
    have := List.mem_range'_1.1 hb
    omega
  · simp only [List.flatten_cons, List.flatten_nil, List.append_nil, List.mem_append] at hp
    rcases hp with hp | hp
    · exact hat p hp
    · exact (heapC_at hp).1
theorem M4 {B : Nat} {W : World} {G : qV} (hG : G.map (·.1) = List.range B) (hat : ∀ p ∈ G, W.heap[p.1]? = some p.2) {i : Nat} {o : Obj} (h : W.heap[i]? = some o) : (i, o) ∈ ([G, Y1 B W] : Res).flatten := by
  simp only [List.flatten_cons, List.flatten_nil, List.append_nil, List.mem_append]
  by_cases hi : i < B
  · have : i ∈ G.map (·.1) := by rw [hG]; exact List.mem_range.2 hi
    obtain ⟨p, hp, rfl⟩ := List.mem_map.1 this
    have := hat p hp
    rw [h] at this; cases this
    exact .inl hp
  · exact .inr (heapC_mem (by omega) h)
theorem below_all {B : Nat} {W W' : World} {G : qV} (hG : G.map (·.1) = List.range B) (hat : ∀ p ∈ G, W.heap[p.1]? = some p.2) (h : Own { W with drawn := 0 } (G :: Y1 B W :: []) W') : Below W.heap.size W W' :=
  ⟨h.os, h.tape, h.output, h.size, fun k hk => by
    have h1 : W.heap[k]? = some W.heap[k] := Array.getElem?_eq_getElem hk
    rw [h1]
    exact h.at_ (k, _) (M4 hG hat h1)⟩
theorem Yr {W w0 : World} {R : Res} (hall : ∀ i o, W.heap[i]? = some o → (i, o) ∈ R.flatten) {a : Addr} {m c sz : Nat} {ys : List Value} (hl : ys.length = m * sz) (h : ∀ j, j < ys.length → W.cell? (a.add j) = ys[j]?) : Reads w0 R (.slice (some a) m c) m sz ys := by
  refine ⟨_, _, rfl, hl, ?_⟩
  by_cases h0 : m * sz = 0
  · exact .inl h0
  refine .inr ?_
  have hc0 := h 0 (by omega)
  rw [List.getElem?_eq_getElem (by omega)] at hc0
  have hs : a.spot = none := by simpa [Addr.add] using World.cell?_spot hc0
  obtain ⟨b, off, spot⟩ := a
  dsimp only at hs
  subst hs
  have hc : ∃ cs e fr, W.heap[b]? = some (.cells cs e fr) := by
    unfold World.cell? at hc0
    split at hc0
    · rename_i c t fr hb
      exact ⟨c, t, fr, by simpa [Addr.add] using hb⟩
    · cases hc0
  obtain ⟨cs, e, fr, hb⟩ := hc
  refine ⟨b, off, cs, e, fr, rfl, hall _ _ hb, ?_⟩
  have hcell : ∀ j, j < ys.length → cs[off + j]? = ys[j]? := fun j hj => by
    rw [← h j hj, yl]
    simp [World.cell?, hb]
  apply List.ext_getElem?
  intro j
  by_cases hj : j < ys.length
  · rw [List.getElem?_take, if_pos (by omega), List.getElem?_drop, ← hcell j hj]; simp
  · rw [List.getElem?_take, if_neg (by omega), List.getElem?_eq_none (by omega)]
end Go.Sx
namespace Go.Proofs.YtjikpomndbkfgaaGreatDoor
open Go Go.Sx Go.Nd Go.RowKit Go.Deep Go.ChangeShapes Go.WideShapes
instance : Inhabited Z1 := ⟨⟨0, 0, 0, none, 0, []⟩⟩
section
variable {H : Type} {enc : TypeId × Value → H} {W : World} {R : Res}
theorem bytes_open (hall : ∀ i o, W.heap[i]? = some o → (i, o) ∈ R.flatten) {fuel : Nat} {cs : List Value} {x : DataW H × List MemPlace} (h : DataW.trod enc Tryz.prog W 0 (fun _ => true) true fuel 23 cs = some x) :
    ∃ (q : Option Addr) (c : Nat) (bs : List Int), cs = [.slice q bs.length c] ∧ IsB bs ∧ bs.length ≤ c ∧ (q = none → bs.length = 0) ∧ ∀ w0, Reads w0 R (.slice q bs.length c) bs.length 1 (u8s bs) := by
  rcases open_slice1 (e := 5) (by kernel_rfl) (by kernel_rfl) h with ⟨rfl, _⟩ | ⟨a, len, cap, m, n, V, D, Pl, rfl, _, hl, hm, hmm, _, hx⟩
  · exact ⟨none, 0, [], rfl, (fun _ h => by cases h), Nat.le_refl _, fun _ => rfl, fun w0 => Reads.nil (by simp)⟩
  · simp only [if_true] at hmm
    subst hmm
    obtain ⟨z, hz⟩ := choose_lt (α := Int) (p := fun i z => V i = .int .u8 z ∧ 0 ≤ z ∧ z ≤ 255) (n := m) (fun i hi => by
      obtain ⟨_, h2⟩ := hx i hi
      obtain ⟨z, h3, _, h4⟩ := DataW.trod_int (k := .u8) (by kernel_rfl) h2
      have := bounds_u8 h4
      simp only [List.cons.injEq, and_true] at h3
      exact ⟨z, h3, this⟩)
    refine ⟨some a, m, (List.range len).map z, by simp, fun b hb => ?_, by simpa using hl, (fun h => by cases h), fun w0 => ?_⟩
    · obtain ⟨i, hi, rfl⟩ := List.mem_map.1 hb
      exact ⟨(hz i (by have := List.mem_range.1 hi; omega)).2.1, by have := (hz i (by have := List.mem_range.1 hi; omega)).2.2; omega⟩
    · have hlen : ((List.range len).map z).length = len := by simp
      rw [hlen]
      refine Yr hall (by simp [u8s]) (fun j hj => ?_)
      have hj' : j < len := by simpa [u8s] using hj
      rw [(hx j (by omega)).1, (hz j (by omega)).1]
      simp [u8s, hj']
set_option maxRecDepth 100000 in
theorem VK (hall : ∀ i o, W.heap[i]? = some o → (i, o) ∈ R.flatten) {fuel : Nat} {cs : List Value} {x : DataW H × List MemPlace} (h : DataW.trod enc Tryz.prog W 0 (fun _ => true) true fuel 25 cs = some x) :
    ∃ a : Z1, cs = Ym a ∧ X4 R a := by
  obtain ⟨xs, n, _, _, hlen, hxl, hf⟩ := DataW.trod_struct Tryz.underlying25 h
  have hc4 : Tryz.prog.cellsOf 25 = 4 := by kernel_rfl
  rw [hc4] at hlen
  match cs, hlen with
  | [v0, v1, v2, v3], _ =>
    have g0 : DataW.trod enc Tryz.prog W 0 (fun _ => true) true n 3 (([v0, v1, v2, v3].drop 0).take (Tryz.prog.cellsOf 3)) = xs[0]? := hf 0 _ rfl
    have g1 : DataW.trod enc Tryz.prog W 0 (fun _ => true) true n 3 (([v0, v1, v2, v3].drop 1).take (Tryz.prog.cellsOf 3)) = xs[1]? := hf 1 _ rfl
    have g2 : DataW.trod enc Tryz.prog W 0 (fun _ => true) true n 3 (([v0, v1, v2, v3].drop 2).take (Tryz.prog.cellsOf 3)) = xs[2]? := hf 2 _ rfl
    have g3 : DataW.trod enc Tryz.prog W 0 (fun _ => true) true n 23 (([v0, v1, v2, v3].drop 3).take (Tryz.prog.cellsOf 23)) = xs[3]? := hf 3 _ rfl
    have c3 : Tryz.prog.cellsOf 3 = 1 := by kernel_rfl
    have cb : Tryz.prog.cellsOf 23 = 1 := by kernel_rfl
    rw [List.getElem?_eq_getElem (by rw [hxl]; decide)] at g0 g1 g2 g3
    simp only [c3, cb, List.drop, List.take] at g0 g1 g2 g3
    obtain ⟨k, e0, _, w0⟩ := DataW.trod_int (k := .i64) (by kernel_rfl) g0
    obtain ⟨p, e1, _, w1⟩ := DataW.trod_int (k := .i64) (by kernel_rfl) g1
    obtain ⟨q, e2, _, w2⟩ := DataW.trod_int (k := .i64) (by kernel_rfl) g2
    obtain ⟨qa, c, bs, e3, h1, h2, h3, h4⟩ := bytes_open hall g3
    simp only [List.cons.injEq, and_true] at e0 e1 e2 e3
    subst e0; subst e1; subst e2; subst e3
    exact ⟨⟨k, p, q, qa, c, bs⟩, rfl, bounds_i64 w1, bounds_i64 w2, h1, h2, h3, h4⟩
theorem acts_open (hall : ∀ i o, W.heap[i]? = some o → (i, o) ∈ R.flatten) {fuel : Nat} {cs : List Value} {x : DataW H × List MemPlace} (h : DataW.trod enc Tryz.prog W 0 (fun _ => true) true fuel 22 cs = some x) :
    ∃ (q : Option Addr) (c : Nat) (acts : List Z1), cs = [.slice q acts.length c] ∧ Xd R q c acts ∧ (acts.length : Int) ≤ 9223372036854775807 := by
  rcases open_slice (e := 25) (by kernel_rfl) h with ⟨rfl, _⟩ | ⟨a, len, cap, m, n, D, Pl, rfl, _, hl, hm, hmm, _, hx⟩
  · exact ⟨none, 0, [], rfl, ⟨(fun _ h => by cases h), fun w0 => Reads.nil (by simp)⟩, by simp⟩
  · simp only [if_true] at hmm
    subst hmm
    have hc4 : Tryz.prog.cellsOf 25 = 4 := by kernel_rfl
    rw [hc4] at hx
    obtain ⟨z, hz⟩ := choose_lt (α := Z1) (p := fun i z => W.cells? 0 (a.add (i * 4)) 4 = some (Ym z) ∧ X4 R z) (n := m) (fun i hi => by
      obtain ⟨cs', h1, h2⟩ := hx i hi
      obtain ⟨b, rfl, hb⟩ := VK hall h2
      exact ⟨b, h1, hb⟩)
    have hlen : ((List.range len).map z).length = len := by simp
    refine ⟨some a, m, (List.range len).map z, by simp, ⟨fun b hb => ?_, fun w0 => ?_⟩, by rw [hlen]; simp [maxLen] at hm; omega⟩
    · obtain ⟨i, hi, rfl⟩ := List.mem_map.1 hb
      exact (hz i (by have := List.mem_range.1 hi; omega)).2
    · rw [hlen]
      have hfl : (((List.range len).map z).flatMap Ym).length = len * 4 := by rw [ka YH, hlen]
      refine Yr hall hfl (fun j hj => ?_)
      have hj4 : j / 4 < len := by omega
      obtain ⟨_, _, hcell⟩ := World.cells?_some (hz (j / 4) (by omega)).1
      have h1 := hcell (j % 4) (Nat.mod_lt _ (by omega))
      rw [add_add, show j / 4 * 4 + j % 4 = j by omega] at h1
      rw [h1]
      have h2 := Qv YH ((List.range len).map z) [] (j := j / 4) (x := z (j / 4)) (by simp [hj4])
      rw [List.append_nil] at h2
      rw [← h2, List.getElem?_take, if_pos (Nat.mod_lt _ (by omega)), List.getElem?_drop, show j / 4 * 4 + j % 4 = j by omega]
end
theorem gSelf : Tryz.prog.globalNamed "drumlin/node.self" = some 0 := by kernel_rfl
theorem gDouble : Tryz.prog.globalNamed "drumlin/node.double" = some 1 := by kernel_rfl
theorem gSingle : Tryz.prog.globalNamed "drumlin/node.single" = some 2 := by kernel_rfl
set_option maxRecDepth 100000 in
theorem YU {W : World} {nm : String} {g t : Nat} {cs : Array Value} {f : Nat} {p : List MemPlace} {a b : Int} {t' : Nat} (hg : Tryz.prog.globalNamed nm = some g) (ht' : (Tryz.prog.globals[g]?).map (·.type) = some t') (ht : (Tryz.prog.globals[g]?).map (·.type) = some t) (h100 : t' = 100) (hv : W.var? Tryz.prog nm = some cs)
    (hd : DataW.trod (fun _ => ()) Tryz.prog W 0 (fun _ => true) false f t cs.toList = some (.agg [.lit (.int .i64 a), .lit (.int .i64 b)], p)) :
    ∃ e fr, W.heap[g]? = some (.cells [Value.int .i64 a, Value.int .i64 b].toArray e fr) := by
  obtain rfl := Option.some.inj (ht'.symm.trans ht)
  subst h100
  obtain ⟨xs, n, _, hx, hlen, hxl, hf⟩ := DataW.trod_struct Tryz.underlying100 hd
  have hc2 : Tryz.prog.cellsOf 100 = 2 := by kernel_rfl
  have c3 : Tryz.prog.cellsOf 3 = 1 := by kernel_rfl
  rw [hc2] at hlen
  obtain ⟨l⟩ := cs
  match l, hlen, xs, hxl with
  | [v0, v1], _, [x0, x1], _ =>
    have g0 : DataW.trod (fun _ => ()) Tryz.prog W 0 (fun _ => true) false n 3 (([v0, v1].drop 0).take (Tryz.prog.cellsOf 3)) = [x0, x1][0]? := hf 0 _ rfl
    have g1 : DataW.trod (fun _ => ()) Tryz.prog W 0 (fun _ => true) false n 3 (([v0, v1].drop 1).take (Tryz.prog.cellsOf 3)) = [x0, x1][1]? := hf 1 _ rfl
    simp only [c3, List.drop, List.take] at g0 g1
    obtain ⟨k, e0, q0, _⟩ := DataW.trod_int (k := .i64) (by kernel_rfl) (show DataW.trod _ Tryz.prog W 0 _ false n 3 [v0] = some x0 from g0)
    obtain ⟨q, e1, q1, _⟩ := DataW.trod_int (k := .i64) (by kernel_rfl) (show DataW.trod _ Tryz.prog W 0 _ false n 3 [v1] = some x1 from g1)
    simp only [List.cons.injEq, and_true] at e0 e1
    subst e0; subst e1; subst q0; subst q1
    simp only [List.map_cons, List.map_nil, Prod.mk.injEq, DataW.agg.injEq, List.cons.injEq, DataW.lit.injEq, Lit.int.injEq, true_and, and_true] at hx
    obtain ⟨⟨rfl, rfl⟩, _⟩ := hx
    unfold World.var? at hv
    rw [hg] at hv
    simp only [Option.bind_some] at hv
    split at hv
    · rename_i c e fr hb
      cases hv
      exact ⟨e, fr, hb⟩
    · cases hv
def Jg : List (String × DataW Unit) := [("drumlin/node.self", Rows.laid_drumlin_node_self), ("drumlin/node.single", Rows.laid_drumlin_node_single), ("drumlin/node.double", Rows.laid_drumlin_node_double)]
theorem glob_of_laid {W : World} (h : laidMetH Tryz.prog Jg W) : ∃ G : qV, kn G ∧ G.map (·.1) = List.range 3 ∧ ∀ p ∈ G, W.heap[p.1]? = some p.2 := by
  rw [MakeChecks.laidMetH_plain _ _ _ (by kernel_rfl)] at h
  obtain ⟨ps, ⟨g0, t0, cs0, f0, p0, q0, hg0, ht0, hv0, hd0, ⟨g1, t1, cs1, f1, p1, q1, hg1, ht1, hv1, hd1, ⟨g2, t2, cs2, f2, p2, q2, hg2, ht2, hv2, hd2, _, _⟩, _⟩, _⟩, _, _⟩ := h
  obtain rfl := Option.some.inj (gSelf.symm.trans hg0)
  obtain rfl := Option.some.inj (gSingle.symm.trans hg1)
  obtain rfl := Option.some.inj (gDouble.symm.trans hg2)
  obtain ⟨e0, r0, h0⟩ := YU (t' := 100) gSelf (by kernel_rfl) ht0 rfl hv0 hd0
  obtain ⟨e2, r2, h2⟩ := YU (t' := 100) gSingle (by kernel_rfl) ht1 rfl hv1 hd1
  obtain ⟨e1, r1, h1⟩ := YU (t' := 100) gDouble (by kernel_rfl) ht2 rfl hv2 hd2
  refine ⟨_, ⟨e0, r0, e1, r1, e2, r2, rfl⟩, rfl, fun p hp => ?_⟩
  simp only [List.mem_cons, List.not_mem_nil, or_false] at hp
  rcases hp with rfl | rfl | rfl
  · exact h0
  · exact h1
  · exact h2
end Go.Proofs.YtjikpomndbkfgaaGreatDoor
namespace Go.Proofs
open Go.Shelf
def Tryz.laysSortI_ren : Go.Shelf.Ren := ⟨fun | 189 => 51 | 125 => 85 | 257 => 84 | 128 => 115 | 129 => 116 | 294 => 106 | 295 => 107 | 296 => 108 | 297 => 109 | 298 => 110 | 299 => 111 | 216 => 112 | 300 => 113 | 301 => 114 | 328 => 136 | 329 => 137 | 330 => 138 | 331 => 139 | 332 => 140 | 215 => 141 | 343 => 154 | n => n, fun | 28 => 39 | 3 => 3 | 46 => 158 | 0 => 0 | 51 => 34 | 53 => 199 | 4 => 4 | 183 => 190 | 182 => 189 | 131 => 195 | 5 => 5 | 9 => 9 | 218 => 220 | 222 => 224 | 228 => 252 | 229 => 253 | n => n, fun | n => n⟩
theorem Tryz.laysSortI : Go.Proofs.Lays.n189 Tryz.prog Tryz.laysSortI_ren where
  mixed := by kernel_rfl
  f125 := Tryz.func85.trans (congrArg some (by kernel_rfl))
  f128 := Tryz.func115.trans (congrArg some (by kernel_rfl))
  f129 := Tryz.func116.trans (congrArg some (by kernel_rfl))
  f189 := Tryz.func51.trans (congrArg some (by kernel_rfl))
  f215 := Tryz.func141.trans (congrArg some (by kernel_rfl))
  f216 := Tryz.func112.trans (congrArg some (by kernel_rfl))
  f257 := Tryz.func84.trans (congrArg some (by kernel_rfl))
  f294 := Tryz.func106.trans (congrArg some (by kernel_rfl))
  f295 := Tryz.func107.trans (congrArg some (by kernel_rfl))
  f296 := Tryz.func108.trans (congrArg some (by kernel_rfl))
  f297 := Tryz.func109.trans (congrArg some (by kernel_rfl))
  f298 := Tryz.func110.trans (congrArg some (by kernel_rfl))
  f299 := Tryz.func111.trans (congrArg some (by kernel_rfl))
  f300 := Tryz.func113.trans (congrArg some (by kernel_rfl))
  f301 := Tryz.func114.trans (congrArg some (by kernel_rfl))
  f328 := Tryz.func136.trans (congrArg some (by kernel_rfl))
  f329 := Tryz.func137.trans (congrArg some (by kernel_rfl))
  f330 := Tryz.func138.trans (congrArg some (by kernel_rfl))
  f331 := Tryz.func139.trans (congrArg some (by kernel_rfl))
  f332 := Tryz.func140.trans (congrArg some (by kernel_rfl))
  f343 := Tryz.func154.trans (congrArg some (by kernel_rfl))
  t0 := Tryz.underlying0
  a0 := Tryz.isAgg0
  z0 := Tryz.sizeOf0
  v0 := Tryz.zeroValue0
  t3 := Tryz.underlying3
  a3 := Tryz.isAgg3
  z3 := Tryz.sizeOf3
  v3 := Tryz.zeroValue3
  t4 := Tryz.underlying4
  a4 := Tryz.isAgg4
  z4 := Tryz.sizeOf4
  v4 := Tryz.zeroValue4
  t5 := Tryz.underlying5
  a5 := Tryz.isAgg5
  z5 := Tryz.sizeOf5
  v5 := Tryz.zeroValue5
  t9 := Tryz.underlying9
  a9 := Tryz.isAgg9
  z9 := Tryz.sizeOf9
  v9 := Tryz.zeroValue9
  t28 := Tryz.underlying39
  a28 := Tryz.isAgg39
  z28 := Tryz.sizeOf39
  v28 := Tryz.zeroValue39
  t46 := Tryz.underlying158
  a46 := Tryz.isAgg158
  z46 := Tryz.sizeOf158
  v46 := Tryz.zeroValue158
  t51 := Tryz.underlying34
  a51 := Tryz.isAgg34
  z51 := Tryz.sizeOf34
  v51 := Tryz.zeroValue34
  t53 := Tryz.underlying199
  a53 := Tryz.isAgg199
  z53 := Tryz.sizeOf199
  v53 := Tryz.zeroValue199
  t131 := Tryz.underlying195
  a131 := Tryz.isAgg195
  z131 := Tryz.sizeOf195
  v131 := Tryz.zeroValue195
  t182 := Tryz.underlying189
  a182 := Tryz.isAgg189
  z182 := Tryz.sizeOf189
  v182 := Tryz.zeroValue189
  t183 := Tryz.underlying190
  a183 := Tryz.isAgg190
  z183 := Tryz.sizeOf190
  v183 := Tryz.zeroValue190
  t218 := Tryz.underlying220
  a218 := Tryz.isAgg220
  z218 := Tryz.sizeOf220
  v218 := Tryz.zeroValue220
  t222 := Tryz.underlying224
  a222 := Tryz.isAgg224
  z222 := Tryz.sizeOf224
  v222 := Tryz.zeroValue224
  t228 := Tryz.underlying252
  a228 := Tryz.isAgg252
  z228 := Tryz.sizeOf252
  v228 := Tryz.zeroValue252
  t229 := Tryz.underlying253
  a229 := Tryz.isAgg253
  z229 := Tryz.sizeOf253
  v229 := Tryz.zeroValue253
end Go.Proofs
namespace Go.Sx
open Go
section
variable {w0 : World} {L F : Res}
theorem Own.grow {w : World} (h : Own w0 L w) (os : Array Obj) : Own w0 L (Go.Sort.grow w os) := by
  refine ⟨h.os, h.tape, h.output, h.drawn, ?_, h.nodup, fun p hp => ?_⟩
  · show w0.heap.size ≤ (w.heap ++ os).size
    have := h.size; rw [Array.size_append]; omega
  · show (w.heap ++ os)[p.1]? = _
    rw [Array.getElem?_append_left (h.lt hp)]; exact h.at_ p hp
theorem putCells_list {α : Type} [Inhabited α] (enc : α → Value) (xs ys : List α) (sp : List Value) (h : ys.length = xs.length) : Go.Sort.putCells enc 0 ys.toArray (xs.map enc ++ sp).toArray = (ys.map enc ++ sp).toArray := by
  apply Array.ext_getElem?
  intro i
  unfold Go.Sort.putCells
  rw [Array.getElem?_mapIdx]
  simp only [List.getElem?_toArray, List.size_toArray, Nat.zero_add, Nat.zero_le, true_and, Nat.sub_zero]
  by_cases hi : i < ys.length
  · rw [List.getElem?_append_left (by simp; omega), List.getElem?_append_left (by simpa using hi)]
    simp [hi, h ▸ hi]
  · rw [List.getElem?_append_right (by simp; omega), List.getElem?_append_right (by simp; omega)]
    simp only [List.length_map, h]
    rw [h] at hi
    simp [hi]
theorem Ke {α : Type} [Inhabited α] {enc : α → Value} {b n : Nat} {e : TypeId} {xs ys : List α} {sp : List Value} {w : World} {os : Array Obj}
    (h : Own w0 ([(b, .cells (xs.map enc ++ sp).toArray e (0, 0))] :: F) w) (hl : ys.length = xs.length) : Own w0 ([(b, .cells (ys.map enc ++ sp).toArray e (0, 0))] :: F) (Go.Sort.grow (Go.Sort.putRow enc (Go.Sort.ahead w n) b 0 ys.toArray) os) := by
  refine Own.grow ?_ os
  have hb := h.get (At.head b _ F)
  refine h.setAt (At.head b _ F) (.cells (ys.map enc ++ sp).toArray e (0, 0)) rfl rfl rfl (by simp) ?_ (fun k hk => ?_) (by show w.drawn ≤ w.drawn + n; omega)
  · show (w.heap.modify b _)[b]? = _
    rw [Array.getElem?_modify, if_pos rfl, hb, ← putCells_list enc xs ys sp hl]; rfl
  · show (w.heap.modify b _)[k]? = _
    rw [Array.getElem?_modify, if_neg (Ne.symm hk)]
theorem JZ {α : Type} [Inhabited α] {enc : α → Value} {b : Nat} {e : TypeId} {xs : List α} {sp : List Value} {w : World} (h : Own w0 ([(b, .cells (xs.map enc ++ sp).toArray e (0, 0))] :: F) w) : Go.Sort.Holds enc w b 0 xs.toArray := by
  have hb := h.get (At.head b _ F)
  intro j hj
  have hj' : j < xs.length := by simpa using hj
  refine ⟨?_, ?_⟩
  · rw [KM hb]
    simp [hj']
    rw [List.getElem?_append_left (by simpa using hj')]; simp [hj']
  · simp [World.frozen?, hb]
end
end Go.Sx
namespace Go.Proofs.YtjikpomndbkfgaaGreatDoor
open Go Go.Sx Go.Nd
section
variable {w0 : World} {L F : Res}
theorem shelf_sortI (w0 : World) (F : Res) (u : Value) (n : Nat) (xs : List Int) (C : qV) (hs : SlC 3 1 u n (iV xs) C) (hx : xs.length = n) (hn : n ≤ 1000000) :
    FnT Tryz.prog w0 51 #[u] (C :: F) (fun v L' => v = .tuple #[] ∧ ∃ C', SlC 3 1 u n (iV (srt xs)) C' ∧ L' = C' :: F) := by
  subst hx
  rcases hs with ⟨rfl, h0, h1, rfl⟩ | ⟨b, cap, sp, rfl, hcs, rfl, hcap, hnc⟩
  · refine ⟨fun w hw => ?_⟩
    have hx : xs = [] := List.length_eq_zero_iff.1 h0
    subst hx
    refine (Go.Proofs.Any.slices_Sort_int_none Go.Proofs.Tryz.laysSortI none 0 w).mono fun e w' ⟨h2, h3⟩ => ?_
    subst h3
    exact ⟨_, _, h2, ⟨rfl, [], by rw [show srt ([] : List Int) = [] from by simp [srt]]; exact SlC.nil 3 1, rfl⟩, hw⟩
  · refine ⟨fun w hw => ?_⟩
    have hw' : Own w0 ([(b, .cells (xs.map (Value.int .i64) ++ sp).toArray 3 (0, 0))] :: F) w := hw
    refine (Go.Proofs.Any.slices_Sort_int Go.Proofs.Tryz.laysSortI b 0 cap xs w (JZ hw') (hw.lt (p := (b, _)) (by simp; exact .inl rfl)) (by omega)).mono fun e w' ⟨h2, k, os, h3⟩ => ?_
    subst h3
    have hl : (srt xs).length = xs.length := Z5 xs
    refine ⟨_, _, h2, ⟨rfl, _, ?_, rfl⟩, Ke (ys := srt xs) hw' hl⟩
    exact .inr ⟨b, cap, sp, rfl, by simp [iV, hl], rfl, by simp only [List.length_append, iV, List.length_map, hl] at hcap ⊢; exact hcap, hnc⟩
end
end Go.Proofs.YtjikpomndbkfgaaGreatDoor
namespace Go.Proofs
open Go.Shelf Go.RowKit Go.Lib Go.Sort
def Tryz.laysCollect_ren : Go.Shelf.Ren := ⟨fun | 8 => 49 | 11 => 82 | n => n, fun | 26 => 3 | 28 => 116 | 24 => 39 | 0 => 0 | 33 => 97 | 4 => 4 | n => n, fun | n => n⟩
theorem Tryz.laysCollect : Go.Proofs.SlLaysZI.n8 Tryz.prog Tryz.laysCollect_ren where
  mixed := by kernel_rfl
  f8 := ⟨ "slices.Collect[int]", by decide, Tryz.func49.trans (congrArg some (by kernel_rfl))⟩
  f11 := ⟨ "slices.AppendSeq[[]int,int]", by decide, Tryz.func82.trans (congrArg some (by kernel_rfl))⟩
  t0 := Tryz.underlying0
  a0 := Tryz.isAgg0
  z0 := Tryz.sizeOf0
  v0 := Tryz.zeroValue0
  t24 := Tryz.underlying39
  a24 := Tryz.isAgg39
  z24 := Tryz.sizeOf39
  v24 := Tryz.zeroValue39
  t26 := Tryz.underlying3
  a26 := Tryz.isAgg3
  z26 := Tryz.sizeOf3
  v26 := Tryz.zeroValue3
  t28 := Tryz.underlying116
  a28 := Tryz.isAgg116
  z28 := Tryz.sizeOf116
  v28 := Tryz.zeroValue116
  i26 := by kernel_rfl
def Tryz.laysKeys_ren : Go.Shelf.Ren := ⟨fun | 10 => 90 | n => n, fun | 33 => 97 | 23 => 42 | 0 => 0 | 4 => 4 | 26 => 3 | 3 => 55 | n => n, fun | n => n⟩
theorem Tryz.laysKeys : Go.Proofs.SlLaysZI.n10 Tryz.prog Tryz.laysKeys_ren where
  mixed := by kernel_rfl
  f10 := ⟨ "maps.Keys[map[int]drumlin/api.Sector,int,drumlin/api.Sector]$1", by decide, Tryz.func90.trans (congrArg some (by kernel_rfl))⟩
  t0 := Tryz.underlying0
  a0 := Tryz.isAgg0
  z0 := Tryz.sizeOf0
  v0 := Tryz.zeroValue0
  t4 := Tryz.underlying4
  a4 := Tryz.isAgg4
  z4 := Tryz.sizeOf4
  v4 := Tryz.zeroValue4
  t23 := Tryz.underlying42
  a23 := Tryz.isAgg42
  z23 := Tryz.sizeOf42
  v23 := Tryz.zeroValue42
  t26 := Tryz.underlying3
  a26 := Tryz.isAgg3
  z26 := Tryz.sizeOf3
  v26 := Tryz.zeroValue3
  t33 := Tryz.underlying97
  a33 := Tryz.isAgg97
  z33 := Tryz.sizeOf97
  v33 := Tryz.zeroValue97
end Go.Proofs
namespace Go.Proofs.YtjikpomndbkfgaaGreatDoor
open Go Go.Sx Go.Nd Go.RowKit
section
variable {w0 : World}
def VV (al : List (Int × Sec)) : DataW Unit := .map ((al.map fun p => ((Lit.int .i64 p.1, DataW.nil) : Lit × DataW Unit)).foldr DataW.insert [])
theorem keyD_keys (al : List (Int × Sec)) : (intKeys (VV al)).Perm (zU al) := by
  show ((List.foldr DataW.insert [] _).map fun p => Go.intOf p.1).Perm _
  refine ((Go.WideShapes.sorted_perm _).map _).trans ?_
  rw [List.map_map]
  exact List.Perm.of_eq rfl
theorem Jk (al : List (Int × Sec)) : Maps.size (VV al) = al.length := by
  show (List.foldr DataW.insert [] _).length = _
  rw [length_sorted, List.length_map]
set_option maxRecDepth 100000 in
theorem own_keys {w : World} {md : Nat} {al : List (Int × Sec)} {es : List MapEntry} {clock : Nat} (hm : w.heap[md]? = some (.map es.toArray clock)) (he : Entries (Value.int .i64) jH al es clock) (hr : ∀ k ∈ zU al, 0 ≤ k ∧ k < 1064) :
    w.ownsMap Tryz.prog 3 (fun _ => some (DataW.nil, [])) md 1064 (VV al) := by
  have hlen : es.length ≤ 1064 := by
    have h1 : es.length = (zU al).length := by rw [kF he]; simp [zU]
    have h2 := yS (l2 := (List.range 1064).map (fun i : Nat => (i : Int))) he.nodup (fun k hk => by
      obtain ⟨h3, h4⟩ := hr k hk
      exact List.mem_map.2 ⟨k.toNat, List.mem_range.2 (by omega), by omega⟩)
    simp at h2; omega
  have hkeys : es.map (·.key) = (zU al).map (Value.int .i64) := by
    have := congrArg (List.map Prod.fst) he.pairs
    simpa [zU, List.map_map, Function.comp_def] using this
  have hread : ∀ x ∈ es, ∃ k, x.key = Value.int .i64 k ∧ k ∈ zU al := fun x hx => by
    have : x.key ∈ es.map (·.key) := List.mem_map.2 ⟨x, hx, rfl⟩
    rw [hkeys] at this
    obtain ⟨k, h1, h2⟩ := List.mem_map.1 this
    exact ⟨k, h2.symm, h1⟩
  have hu : Tryz.prog.underlying 3 = some (.int .i64) := by kernel_rfl
  have hwf : ∀ k : Int, k ∈ zU al → (Lit.int .i64 k).wf = true := fun k hk => by
    obtain ⟨h3, h4⟩ := hr k hk
    simp [Lit.wf, IntKind.min, IntKind.max, IntKind.bits, IntKind.signed]; omega
  have hrd : ∀ x ∈ es, ∀ k, x.key = Value.int .i64 k → k ∈ zU al → Go.WideElems.rd Tryz.prog 3 (fun _ => some ((DataW.nil : DataW Unit), ([] : List MemPlace))) x = some (Lit.int .i64 k, DataW.nil) := fun x hx k h1 h2 => by
    unfold Go.WideElems.rd
    rw [h1, Go.Maps.keyOf_int_mk hu (hwf k h2)]; rfl
  refine ⟨es.toArray, clock, hm, ⟨by simp [maxLen]; omega, ⟨fun x hx => he.young x (by simpa using hx), ?_, ?_⟩, fun x hx => ?_⟩, by simpa using hlen, ?_⟩
  · have := he.asc.imp (fun {a b} (h : a < b) => Nat.ne_of_lt h)
    simpa [List.Nodup] using this
  · show (es.map (·.key)).Nodup
    rw [hkeys]
    exact (List.pairwise_map.2 (he.nodup.imp (fun {a b} h e => h (by cases e; rfl))))
  · obtain ⟨k, h1, h2⟩ := hread x (by simpa using hx)
    exact ⟨_, hrd x (by simpa using hx) k h1 h2⟩
  · unfold VV
    congr 1
    congr 1
    apply List.ext_getElem?
    intro i
    simp only [List.getElem?_map]
    cases ha : al[i]? with
    | none =>
      have : es[i]? = none := by rw [List.getElem?_eq_none_iff] at ha ⊢; rw [kF he]; exact ha
      simp [this]
    | some p =>
      obtain ⟨e, h1, h2, _⟩ := j1 he (q := p.1) (v := p.2) ha
      simp only [h1, Option.map_some, Option.some.injEq]
      unfold Go.WideElems.rg
      rw [hrd e (List.mem_of_getElem? h1) p.1 h2 (List.mem_map.2 ⟨p, List.mem_of_getElem? ha, rfl⟩)]
      rfl
theorem Ja {F : Res} {w w' : World} (hd : w0.drawn = 0) {C : qV} {v : Value} {ss : List Int} (hw : Own w0 F w) (hB : Below w.heap.size w w') (hr : w'.ownsRow w.heap.size 3 1 v ss.length (ss.map encZ)) :
    ∃ C, SlC 3 1 v ss.length (iV ss) C ∧ Own w0 (C :: F) w' := by
  have hold : Own w0 F w' := ⟨hB.os.trans hw.os, hB.tape.trans hw.tape, hB.output.trans hw.output, by rw [hd]; exact Nat.zero_le _, Nat.le_trans hw.size hB.size, hw.nodup, fun p hp => (hB.block p.1 (hw.lt hp)).trans (hw.at_ p hp)⟩
  obtain ⟨h1, ⟨rfl, h2⟩ | ⟨g, cap, cur, rfl, h3, h4, h5, h6, h7, h8⟩⟩ := hr
  · have : ss = [] := List.length_eq_zero_iff.1 h2
    subst this
    exact ⟨[], SlC.nil 3 1, hold.perm (by simp)⟩
  · refine ⟨[(g, .cells cur 3 (0, 0))], .inr ⟨g, cap, cur.toList.drop ss.length, rfl, by simp [iV], ?_, ?_, h5⟩, ⟨hold.os, hold.tape, hold.output, hold.drawn, hold.size, ?_, ?_⟩⟩
    · have : iV ss ++ cur.toList.drop ss.length = cur.toList := by
        rw [show iV ss = ss.map encZ from rfl, ← h8, Nat.mul_one, List.take_append_drop]
      rw [this, Array.toArray_toList]
    · have : iV ss ++ cur.toList.drop ss.length = cur.toList := by
        rw [show iV ss = ss.map encZ from rfl, ← h8, Nat.mul_one, List.take_append_drop]
      rw [this, Array.length_toList, h7]
    · simp only [List.flatten_cons, List.map_append, List.map_cons, List.map_nil, List.singleton_append, List.nodup_cons]
      refine ⟨fun hm => ?_, hold.nodup⟩
      obtain ⟨p, hp, e⟩ := List.mem_map.1 hm
      have := hw.lt hp
      omega
    · intro p hp
      simp only [List.flatten_cons, List.singleton_append, List.mem_cons] at hp
      rcases hp with rfl | hp
      · exact h4
      · exact hold.at_ p hp
theorem cF8 : Tryz.laysCollect_ren.f 8 = 49 := by kernel_rfl
theorem cF11 : Tryz.laysCollect_ren.f 11 = 82 := by kernel_rfl
theorem cT26 : Tryz.laysCollect_ren.t 26 = 3 := by kernel_rfl
theorem Mf : Tryz.laysKeys_ren.f 10 = 90 := by kernel_rfl
theorem kT26 : Tryz.laysKeys_ren.t 26 = 3 := by kernel_rfl
theorem J7 {g : Nat} (L : List FuncId) (h1 : 49 ∈ L) (h2 : 82 ∈ L) (h3 : g ∈ L) [he : Go.Sx.Enters Tryz.prog g] (lb : Array Value) (Dp : Nat) (S : List Int → Prop) (N : Nat) (hN : N ≤ maxLen) (hNb : N * 8 ≤ 140737488355328) (w : World)
    (hseq : SeqGives (Fence.list L (some Dp)) 1 Tryz.prog g lb encZ S N w) :
    CallsIn (Fence.list L (some Dp)) 3 Tryz.prog 49 #[.func (.func g) #[] lb] w fun e w' => ∃ (v : Value) (ss : List Int), e = .returned v ∧ S ss ∧ w'.ownsRow w.heap.size 3 1 v ss.length (ss.map encZ) ∧ (v = .slice none 0 0 ↔ ss = []) ∧ Below w.heap.size w w' := by
  have h := Go.Proofs.AnyZI.collect_in Go.Proofs.Tryz.laysCollect (Fence.list L (some Dp)) 3 (by rw [cF8]; exact h1) (by rw [cF11]; exact h2) rfl (by omega) g lb h3 he.h S N hN hNb w hseq
  rw [cF8, cT26] at h
  exact h
theorem gives_key (Dp b md nn : Nat) (D0 : DataW Unit) (w : World) (hb : b < w.heap.size) (hc : w.cell? ⟨b, 0, none⟩ = some (.map (some md))) (hown : w.ownsMap Tryz.prog 3 (fun _ => some (DataW.nil, [])) md nn D0) :
    SeqGives (Fence.list [49, 82, 90] (some Dp)) 1 Tryz.prog 90 #[.pointer (some ⟨b, 0, none⟩)] encZ (fun ss => ss.Perm (intKeys D0)) (Maps.size D0) w := by
  have h := Go.Proofs.AnyZI.keys_gives Go.Proofs.Tryz.laysKeys (Fence.list [49, 82, 90] (some Dp)) 1 (by rw [Mf]; simp [Fence.list]) rfl (by omega) b md nn D0 w hb hc (by rw [kT26]; exact hown)
  rw [Mf] at h
  exact h
theorem shelf_keys (hd : w0.drawn = 0) (F : Res) (b md : Nat) (e : TypeId) (fr : Nat × Nat) (od : Obj) (f : Int → Option Sec) (ho : MapF (Value.int .i64) jH f od) (hf : ∀ k, f k ≠ none → 0 ≤ k ∧ k < 1064) :
    FnT Tryz.prog w0 49 #[.func (.func 90) [].toArray [.pointer (some ⟨b, 0, none⟩)].toArray] ([(b, .cells [Value.map (some md)].toArray e fr)] :: [(md, od)] :: F)
      (fun v L' => ∃ ks C, SlC 3 1 v ks.length (iV ks) C ∧ ks.Nodup ∧ (∀ k, k ∈ ks ↔ f k ≠ none) ∧ L' = C :: [(b, .cells [Value.map (some md)].toArray e fr)] :: [(md, od)] :: F) := by
  refine ⟨fun w hw => ?_⟩
  obtain ⟨al, ⟨es, clock, rfl, he⟩, hg⟩ := ho
  have hk : ∀ k, k ∈ zU al ↔ f k ≠ none := fun k => by
    rw [← hg k]
    have := WP (l := al) (q := k)
    constructor
    · intro h1 h2; exact this.1 h2 h1
    · intro h1; exact Classical.byContradiction fun h2 => h1 (this.2 h2)
  have hb : w.heap[b]? = some (.cells [Value.map (some md)].toArray e fr) := hw.at_ (b, _) (by simp)
  have hm : w.heap[md]? = some (.map es.toArray clock) := hw.at_ (md, _) (by simp)
  have hown := own_keys hm he (fun k hk' => hf k ((hk k).1 hk'))
  have hlen : al.length ≤ 1064 := by
    obtain ⟨_, _, h1, _, h2, _⟩ := hown
    rw [hm] at h1; cases h1
    rw [← kF he]; simpa using h2
  have hcell : w.cell? ⟨b, 0, none⟩ = some (.map (some md)) := by rw [KM hb]; rfl
  have hcall : Calls Tryz.prog 49 #[.func (.func 90) #[] #[.pointer (some ⟨b, 0, none⟩)]] w _ := calls_of_every_depth (L := [49, 82, 90]) (n := 3) fun Dp => J7 (g := 90) [49, 82, 90] (by simp) (by simp) (by simp) #[.pointer (some ⟨b, 0, none⟩)] Dp (fun ss => ss.Perm (intKeys (VV al))) (Maps.size (VV al)) (by rw [Jk]; simp [maxLen]; omega) (by rw [Jk]; omega) w
      (gives_key Dp b md 1064 (VV al) w (hw.lt (p := (b, .cells [Value.map (some md)].toArray e fr)) (by simp)) hcell hown)
  refine hcall.mono fun e' w' ⟨v, ss, h1, h2, h3, h4, h5⟩ => ?_
  obtain ⟨C, h6, h7⟩ := Ja (C := []) hd hw h5 h3
  have hp := h2.trans (keyD_keys al)
  exact ⟨v, _, h1, ⟨ss, C, h6, hp.nodup_iff.2 he.nodup, fun k => by rw [← hk]; exact hp.mem_iff, rfl⟩, h7⟩
theorem shelfI (hd : w0.drawn = 0) : jJ w0 := ⟨shelf_sortI w0, shelf_keys hd⟩
end
end Go.Proofs.YtjikpomndbkfgaaGreatDoor
namespace Go.Proofs
open Go.Shelf Go.RowKit Go.Lib Go.Sort
def Tryz.laysSortF_ren : Go.Shelf.Ren := ⟨fun | 6 => 79 | 15 => 85 | 14 => 105 | 28 => 115 | 29 => 116 | 20 => 128 | 21 => 129 | 22 => 130 | 23 => 131 | 24 => 132 | 25 => 133 | 26 => 134 | 27 => 135 | 46 => 151 | 47 => 137 | 48 => 138 | 49 => 152 | 50 => 153 | 57 => 160 | n => n, fun | 22 => 110 | 24 => 100 | 25 => 152 | 3 => 3 | 39 => 158 | 0 => 0 | 53 => 34 | 55 => 199 | 4 => 4 | 46 => 190 | 45 => 189 | 50 => 195 | 5 => 5 | 9 => 9 | 66 => 220 | 70 => 224 | 76 => 252 | 77 => 253 | n => n, fun | n => n⟩
theorem Tryz.laysSortF : Go.Proofs.SlLaysF0.n6 Tryz.prog Tryz.laysSortF_ren where
  mixed := by kernel_rfl
  f6 := ⟨ "slices.SortFunc[[]drumlin/node.part,drumlin/node.part]", by decide, Tryz.func79.trans (congrArg some (by kernel_rfl))⟩
  f14 := ⟨ "slices.pdqsortCmpFunc[drumlin/node.part]", by decide, Tryz.func105.trans (congrArg some (by kernel_rfl))⟩
  f15 := Tryz.func85.trans (congrArg some (by kernel_rfl))
  f20 := ⟨ "slices.insertionSortCmpFunc[drumlin/node.part]", by decide, Tryz.func128.trans (congrArg some (by kernel_rfl))⟩
  f21 := ⟨ "slices.heapSortCmpFunc[drumlin/node.part]", by decide, Tryz.func129.trans (congrArg some (by kernel_rfl))⟩
  f22 := ⟨ "slices.breakPatternsCmpFunc[drumlin/node.part]", by decide, Tryz.func130.trans (congrArg some (by kernel_rfl))⟩
  f23 := ⟨ "slices.choosePivotCmpFunc[drumlin/node.part]", by decide, Tryz.func131.trans (congrArg some (by kernel_rfl))⟩
  f24 := ⟨ "slices.reverseRangeCmpFunc[drumlin/node.part]", by decide, Tryz.func132.trans (congrArg some (by kernel_rfl))⟩
  f25 := ⟨ "slices.partialInsertionSortCmpFunc[drumlin/node.part]", by decide, Tryz.func133.trans (congrArg some (by kernel_rfl))⟩
  f26 := ⟨ "slices.partitionEqualCmpFunc[drumlin/node.part]", by decide, Tryz.func134.trans (congrArg some (by kernel_rfl))⟩
  f27 := ⟨ "slices.partitionCmpFunc[drumlin/node.part]", by decide, Tryz.func135.trans (congrArg some (by kernel_rfl))⟩
  f28 := Tryz.func115.trans (congrArg some (by kernel_rfl))
  f29 := Tryz.func116.trans (congrArg some (by kernel_rfl))
  f46 := ⟨ "slices.siftDownCmpFunc[drumlin/node.part]", by decide, Tryz.func151.trans (congrArg some (by kernel_rfl))⟩
  f47 := Tryz.func137.trans (congrArg some (by kernel_rfl))
  f48 := Tryz.func138.trans (congrArg some (by kernel_rfl))
  f49 := ⟨ "slices.medianAdjacentCmpFunc[drumlin/node.part]", by decide, Tryz.func152.trans (congrArg some (by kernel_rfl))⟩
  f50 := ⟨ "slices.medianCmpFunc[drumlin/node.part]", by decide, Tryz.func153.trans (congrArg some (by kernel_rfl))⟩
  f57 := ⟨ "slices.order2CmpFunc[drumlin/node.part]", by decide, Tryz.func160.trans (congrArg some (by kernel_rfl))⟩
  t0 := Tryz.underlying0
  a0 := Tryz.isAgg0
  z0 := Tryz.sizeOf0
  v0 := Tryz.zeroValue0
  t3 := Tryz.underlying3
  a3 := Tryz.isAgg3
  z3 := Tryz.sizeOf3
  v3 := Tryz.zeroValue3
  t4 := Tryz.underlying4
  a4 := Tryz.isAgg4
  z4 := Tryz.sizeOf4
  v4 := Tryz.zeroValue4
  t5 := Tryz.underlying5
  a5 := Tryz.isAgg5
  z5 := Tryz.sizeOf5
  v5 := Tryz.zeroValue5
  t9 := Tryz.underlying9
  a9 := Tryz.isAgg9
  z9 := Tryz.sizeOf9
  v9 := Tryz.zeroValue9
  t22 := Tryz.underlying110
  a22 := Tryz.isAgg110
  z22 := Tryz.sizeOf110
  v22 := Tryz.zeroValue110
  t25 := Tryz.underlying152
  a25 := Tryz.isAgg152
  z25 := Tryz.sizeOf152
  v25 := Tryz.zeroValue152
  t39 := Tryz.underlying158
  a39 := Tryz.isAgg158
  z39 := Tryz.sizeOf158
  v39 := Tryz.zeroValue158
  t45 := Tryz.underlying189
  a45 := Tryz.isAgg189
  z45 := Tryz.sizeOf189
  v45 := Tryz.zeroValue189
  t46 := Tryz.underlying190
  a46 := Tryz.isAgg190
  z46 := Tryz.sizeOf190
  v46 := Tryz.zeroValue190
  t50 := Tryz.underlying195
  a50 := Tryz.isAgg195
  z50 := Tryz.sizeOf195
  v50 := Tryz.zeroValue195
  t53 := Tryz.underlying34
  a53 := Tryz.isAgg34
  z53 := Tryz.sizeOf34
  v53 := Tryz.zeroValue34
  t55 := Tryz.underlying199
  a55 := Tryz.isAgg199
  z55 := Tryz.sizeOf199
  v55 := Tryz.zeroValue199
  t66 := Tryz.underlying220
  a66 := Tryz.isAgg220
  z66 := Tryz.sizeOf220
  v66 := Tryz.zeroValue220
  t70 := Tryz.underlying224
  a70 := Tryz.isAgg224
  z70 := Tryz.sizeOf224
  v70 := Tryz.zeroValue224
  t76 := Tryz.underlying252
  a76 := Tryz.isAgg252
  z76 := Tryz.sizeOf252
  v76 := Tryz.zeroValue252
  t77 := Tryz.underlying253
  a77 := Tryz.isAgg253
  z77 := Tryz.sizeOf253
  v77 := Tryz.zeroValue253
end Go.Proofs
namespace Go.Proofs.YtjikpomndbkfgaaGreatDoor
open Go Go.Sx Go.Nd
set_option maxRecDepth 10000
section
variable {w0 : World} {L F : Res}
theorem Jb {k : Int × Int} (h : wC k) : (XH k.1).getD 0 = Kf k.1 ∧ 0 ≤ Kf k.1 ∧ Kf k.1 ≤ 4 := by
  rcases h with ⟨h, -⟩ | rfl | rfl | rfl | ⟨h, -⟩
  · rw [h]; decide
  · decide
  · decide
  · decide
  · rw [h]; decide
theorem Vk {k : Int × Int} (h : wC k) : 0 ≤ k.2 ∧ k.2 < 1064 := by
  rcases h with ⟨-, h1, h2⟩ | rfl | rfl | rfl | ⟨-, h1, h2⟩
  · exact ⟨h1, h2⟩
  · decide
  · decide
  · decide
  · omega
theorem cmp_ok (b r : Nat) (o : Obj) (ho : MapF (Value.int .i64) (Value.int .i64) XH o) (x y : Int × Int) (hx : wC x) (hy : wC y) :
    FnT Tryz.prog w0 80 #[.agg (zP x).toArray, .agg (zP y).toArray, .pointer (some ⟨b, 0, none⟩)] ([(b, .cells [Value.map (some r)].toArray 150 (0, 0))] :: [(r, o)] :: F)
      (fun v L' => v = .int .i64 (kj x y) ∧ L' = [(b, .cells [Value.map (some r)].toArray 150 (0, 0))] :: [(r, o)] :: F) := by
  have h1 := Jb hx
  have h2 := Jb hy
  have h3 := Vk hx
  have h4 := Vk hy
  rw [show zP x = [.int .i64 x.1, .int .i64 x.2] from rfl, show zP y = [.int .i64 y.1, .int .i64 y.2] from rfl]
  refine qh (E0 := [(0, _), (1, _), (2, _)]) (N := 25) Tryz.func80 rfl rfl rfl rfl ?_
  refine qP <| qG (wq rfl) ?_
  rintro t3 _ ⟨b3, rfl, rfl⟩
  refine qG (wq rfl) ?_
  rintro t4 _ ⟨b4, rfl, rfl⟩
  refine qD rfl <| qF <| qO <| qP <| q9 (qA rfl) <| q9 (qH rfl rfl) <| q9 (qA rfl) <| q9 (qH rfl rfl) <| q9 (wz rfl rfl) <| qF <| qL rfl (fun hc1 => ?_) (fun hc1 => ?_)
  ·
   refine qP <| q9 (qH rfl rfl) <| q9 (qA rfl) <| q9 (qH rfl rfl) <| q9 (yQ (z := 0) (q := x.1) rfl rfl ho) <| q9 (qH rfl rfl) <| q9 (qA rfl) <| q9 (qH rfl rfl) <| q9 (yQ (z := 0) (q := y.1) rfl rfl ho) <| q9 (y1 rfl rfl (by omega)) <| qD rfl <| qF <| qz <| w7 <| wF ([(b, .cells [Value.map (some r)].toArray 150 (0, 0))] :: [(r, o)] :: F) (.inl rfl) rfl (qu rfl) ?_
   exact ⟨by unfold kj; rw [if_pos hc1, h1.1, h2.1], rfl⟩
  ·
   refine qZ <| qI <| qP <| q9 (qA rfl) <| q9 (qH rfl rfl) <| q9 (qA rfl) <| q9 (qH rfl rfl) <| q9 (y1 rfl rfl (by omega)) <| qD rfl <| qF <| qz <| wF ([(b, .cells [Value.map (some r)].toArray 150 (0, 0))] :: [(r, o)] :: F) (.inl rfl) rfl (qu rfl) ?_
   exact ⟨by unfold kj; rw [if_neg hc1], rfl⟩
theorem call_pure {P : Program} {f : FuncId} {args : Array Value} {v : Value} {b r : Nat} {ob o : Obj} (hf : ∀ (w0 : World) (F : Res), FnT P w0 f args ([(b, ob)] :: [(r, o)] :: F) (fun v' L' => v' = v ∧ L' = [(b, ob)] :: [(r, o)] :: F))
    {W : World} (hb : W.heap[b]? = some ob) (hr : W.heap[r]? = some o) (hne : b ≠ r) : Calls P f args W (fun e w' => e = .returned v ∧ ∃ q os', w' = Go.Sort.grow (W.drewN q) os') := by
  let rest : qV := ((List.range W.heap.size).filter (fun i => decide (i ≠ b ∧ i ≠ r))).filterMap (fun i => (W.heap[i]?).map (fun z => (i, z)))
  have hmem : ∀ p : Vc, p ∈ rest ↔ (p.1 ≠ b ∧ p.1 ≠ r ∧ W.heap[p.1]? = some p.2) := by
    intro p
    simp only [rest, List.mem_filterMap, List.mem_filter, List.mem_range, decide_eq_true_eq, Option.map_eq_some_iff]
    constructor
    · rintro ⟨i, ⟨h1, h2, h3⟩, z, hz, rfl⟩; exact ⟨h2, h3, hz⟩
    · rintro ⟨h1, h2, h3⟩
      exact ⟨p.1, ⟨(Array.getElem?_eq_some_iff.1 h3).1, h1, h2⟩, p.2, h3, rfl⟩
  have hnd : (rest.map (·.1)).Nodup := by
    have e : rest.map (·.1) = ((List.range W.heap.size).filter (fun i => decide (i ≠ b ∧ i ≠ r))) := by
      have key : ∀ l : List Nat, (∀ i ∈ l, i < W.heap.size) → (l.filterMap (fun i => (W.heap[i]?).map (fun z => (i, z)))).map (·.1) = l := by
        intro l
        induction l with
        | nil => intro _; rfl
        | cons i l ih =>
          intro h
          have hi := h i (by simp)
          rw [List.filterMap_cons, Array.getElem?_eq_getElem hi]
          simp only [Option.map_some, List.map_cons]
          rw [ih (fun j hj => h j (by simp [hj]))]
      exact key _ (fun i hi => List.mem_range.1 (List.mem_filter.1 hi).1)
    rw [e]; exact List.nodup_range.filter _
  have hown : Own W ([(b, ob)] :: [(r, o)] :: [rest]) W := by
    refine ⟨rfl, rfl, rfl, Nat.le_refl _, Nat.le_refl _, ?_, ?_⟩
    · simp only [List.flatten_cons, List.flatten_nil, List.append_nil, List.singleton_append, List.map_cons, List.nodup_cons, List.mem_cons, List.mem_map, not_or]
      refine ⟨⟨hne, fun ⟨p, hp, e⟩ => ((hmem p).1 hp).1 e⟩, fun ⟨p, hp, e⟩ => ((hmem p).1 hp).2.1 e, hnd⟩
    · intro p hp
      simp only [List.flatten_cons, List.flatten_nil, List.append_nil, List.singleton_append, List.mem_cons] at hp
      rcases hp with rfl | rfl | hp
      · exact hb
      · exact hr
      · exact ((hmem p).1 hp).2.2
  refine ((hf W [rest]).h W hown).mono fun e w' ⟨v', L', h1, ⟨h2, h3⟩, h4⟩ => ?_
  subst h2; subst h3
  refine ⟨h1, w'.drawn - W.drawn, w'.heap.extract W.heap.size w'.heap.size, ?_⟩
  have hsz := h4.size
  have hdr := h4.drawn
  have hh : w'.heap = W.heap ++ w'.heap.extract W.heap.size w'.heap.size := by
    apply Array.ext_getElem?
    intro i
    by_cases hi : i < W.heap.size
    · rw [Array.getElem?_append_left hi]
      by_cases e1 : i = b
      · rw [e1, hb]; exact h4.at_ (b, ob) (by simp)
      · by_cases e2 : i = r
        · rw [e2, hr]; exact h4.at_ (r, o) (by simp)
        · have hz : W.heap[i]? = some W.heap[i] := Array.getElem?_eq_getElem hi
          rw [hz]; exact h4.at_ (i, W.heap[i]) (by simp; exact .inr (.inr ((hmem (i, W.heap[i])).2 ⟨e1, e2, hz⟩)))
    · rw [Array.getElem?_append_right (by omega), Array.getElem?_extract]
      by_cases h5 : i < w'.heap.size
      · rw [if_pos (by omega)]; congr 1; omega
      · rw [if_neg (by omega), Array.getElem?_eq_none (by omega)]
  show w' = { W with drawn := W.drawn + (w'.drawn - W.drawn), heap := W.heap ++ _ }
  rw [← hh, show W.drawn + (w'.drawn - W.drawn) = w'.drawn from by omega, ← h4.os, ← h4.tape, ← h4.output]
abbrev PT := {k : Int × Int // wC k}
instance : Inhabited PT := ⟨⟨(2, 0), .inr (.inl rfl)⟩⟩
def jP (k : PT) : List Value := zP k.1
def YA (x y : PT) : Int := kj x.1 y.1
theorem xj (x y : Int × Int) : kj y x = - kj x y := by
  unfold kj
  by_cases h : x.1 = y.1
  · rw [if_neg (by simp [h]), if_neg (by simp [h])]; omega
  · rw [if_pos (Ne.symm h), if_pos h]; omega
theorem swo_PT : Go.Sort.SWO (Go.Proofs.ltOf YA) := by
  refine ⟨fun x => ?_, fun x y z h1 h2 => ?_, fun x y z h1 h2 => ?_⟩
  · unfold Go.Proofs.ltOf YA
    have := xj x.1 x.1
    exact decide_eq_false (by omega)
  · unfold Go.Proofs.ltOf YA at *
    have h1 := of_decide_eq_true h1
    have h2 := of_decide_eq_true h2
    have a := WN x.2 y.2 z.2 (by omega) (by omega)
    refine decide_eq_true ?_
    refine Classical.byContradiction fun hn => ?_
    have e : kj z.1 x.1 ≤ 0 := by have := xj x.1 z.1; omega
    have b := WN y.2 z.2 x.2 (by omega) e
    have := xj x.1 y.1
    omega
  · unfold Go.Proofs.ltOf YA at *
    have h1 := of_decide_eq_false h1
    have h2 := of_decide_eq_false h2
    refine decide_eq_false ?_
    have e1 : kj y.1 x.1 ≤ 0 := by have := xj x.1 y.1; omega
    have e2 : kj z.1 y.1 ≤ 0 := by have := xj y.1 z.1; omega
    have := WN z.2 y.2 x.2 e2 e1
    have := xj x.1 z.1
    omega
theorem J0 (xs : List PT) : Go.Sort.flatK jP 2 xs.toArray = (xs.flatMap jP).toArray := by
  apply Array.ext_getElem?
  intro t
  have hlen := ka (enc := jP) (sz := 2) (fun _ => rfl) xs
  by_cases ht : t < xs.length * 2
  · have hj : t / 2 < xs.length := by omega
    have h1 := Kz (enc := jP) (sz := 2) (fun _ => rfl) xs [] (j := t / 2) (k := t % 2) (List.getElem?_eq_getElem hj) (by omega)
    rw [List.append_nil, show t / 2 * 2 + t % 2 = t from by omega] at h1
    have h6 : (xs.flatMap jP).toArray[t]? = (xs.flatMap jP)[t]? := by simp
    rw [h6, h1]
    have h2 := Go.Sort.get_flatK jP 2 xs.toArray t (by simpa using ht)
    have h3 : t < (Go.Sort.flatK jP 2 xs.toArray).size := by rw [Go.Sort.size_flatK]; simpa using ht
    rw [getElem!_pos _ t h3] at h2
    rw [Array.getElem?_eq_getElem h3, h2]
    have h4 : xs.toArray[t / 2]! = xs[t / 2] := by simp [hj]
    rw [h4]
    have h5 : t % 2 < (jP xs[t / 2]).length := by show _ < 2; omega
    rw [List.getElem?_eq_getElem h5, getElem!_pos (jP xs[t / 2]) (t % 2) h5]
  · have e1 : (Go.Sort.flatK jP 2 xs.toArray).size ≤ t := by rw [Go.Sort.size_flatK, List.size_toArray]; omega
    have e2 : (xs.flatMap jP).toArray.size ≤ t := by rw [List.size_toArray, hlen]; omega
    rw [Array.getElem?_eq_none e1, Array.getElem?_eq_none e2]
theorem att_map : ∀ (xs : List (Int × Int)), (∀ x ∈ xs, wC x) → ∃ ys : List PT, ys.map (·.1) = xs := by
  intro xs
  induction xs with
  | nil => intro _; exact ⟨[], rfl⟩
  | cons x xs ih =>
    intro h
    obtain ⟨ys, hy⟩ := ih (fun z hz => h z (by simp [hz]))
    exact ⟨⟨x, h x (by simp)⟩ :: ys, by rw [List.map_cons, hy]⟩
theorem VG (ys : List PT) : ys.flatMap jP = (ys.map (·.1)).flatMap zP := by rw [List.flatMap_map]; rfl
theorem srt_PT (ys : List PT) : (ys.mergeSort (fun x y => !(Go.Proofs.ltOf YA) y x)).map (·.1) = YP (ys.map (·.1)) := by
  unfold YP
  refine List.map_mergeSort (r := fun x y => !(Go.Proofs.ltOf YA) y x) (s := fun a b => decide (kj a b ≤ 0)) (f := fun x : PT => x.1) (l := ys) (fun x _ y _ => ?_)
  unfold Go.Proofs.ltOf YA
  have := xj x.1 y.1
  by_cases h : kj y.1 x.1 < 0
  · rw [decide_eq_true h, decide_eq_false (by omega)]; rfl
  · rw [decide_eq_false h, decide_eq_true (by omega)]; rfl
theorem shelf_sortP (w0 : World) (F : Res) (u : Value) (xs : List (Int × Int)) (C : qV) (b r : Nat) (o : Obj) (hs : SlC 100 2 u xs.length (xs.flatMap zP) C) (hn : xs.length ≤ 1000000) (hx : ∀ x ∈ xs, wC x) (ho : MapF (Value.int .i64) (Value.int .i64) XH o) :
    FnT Tryz.prog w0 79 #[u, .func (.func 80) #[] #[.pointer (some ⟨b, 0, none⟩)]] (C :: [(b, .cells [Value.map (some r)].toArray 150 (0, 0))] :: [(r, o)] :: F)
      (fun v L' => v = .tuple #[] ∧ ∃ C', SlC 100 2 u xs.length ((YP xs).flatMap zP) C' ∧ L' = C' :: [(b, .cells [Value.map (some r)].toArray 150 (0, 0))] :: [(r, o)] :: F) := by
  rcases hs with ⟨rfl, h0, h1, rfl⟩ | ⟨blk, cap, sp, rfl, hcs, rfl, hcap, hnc⟩
  · refine ⟨fun w hw => ?_⟩
    have hx0 : xs = [] := List.length_eq_zero_iff.1 h0
    subst hx0
    refine (Go.Proofs.AnyF.slices_SortFunc_none Go.Proofs.Tryz.laysSortF none 0 _ w).mono fun e w' ⟨h2, h3⟩ => ?_
    subst h3
    exact ⟨_, _, h2, ⟨rfl, [], by rw [show YP ([] : List (Int × Int)) = [] from by simp [YP]]; exact SlC.nil 100 2, rfl⟩, hw⟩
  · refine ⟨fun w hw => ?_⟩
    obtain ⟨ys, hys⟩ := att_map xs hx
    have hyl : ys.length = xs.length := by rw [← hys, List.length_map]
    have hfl : xs.flatMap zP = ys.flatMap jP := by rw [VG, hys]
    have hw' : Own w0 ([(blk, .cells ((ys.flatMap jP).map id ++ sp).toArray 100 (0, 0))] :: [(b, .cells [Value.map (some r)].toArray 150 (0, 0))] :: [(r, o)] :: F) w := by rw [List.map_id, ← hfl]; exact hw
    have hne : b ≠ r := by
      have := hw.nodup
      simp at this; exact fun e => this.2.1.1 e
    have key : ∀ (m : Nat) (os : Array Obj) (zs : List PT), zs.length = ys.length → Own w0 ([(blk, .cells ((zs.flatMap jP).map id ++ sp).toArray 100 (0, 0))] :: [(b, .cells [Value.map (some r)].toArray 150 (0, 0))] :: [(r, o)] :: F) (sortWorldK jP 2 w blk 0 m zs.toArray os) := by
      intro m os zs hz
      unfold Go.Proofs.sortWorldK Go.Sort.putRowK
      rw [J0]
      exact Ke (enc := id) hw' (by rw [ka (enc := jP) (sz := 2) (fun _ => rfl), ka (enc := jP) (sz := 2) (fun _ => rfl), hz])
    have hcmp : Go.Proofs.CmpLays Tryz.prog 80 #[.pointer (some ⟨b, 0, none⟩)] jP 2 YA blk 0 ys.toArray.size w := by
      intro m os dk hdk x y
      obtain ⟨zs⟩ := dk
      have ho' := key m os zs (by simpa using hdk)
      exact call_pure (fun w0 F => cmp_ok b r o ho x.1 y.1 x.2 y.2) (ho'.at_ (b, _) (by simp)) (ho'.at_ (r, o) (by simp)) hne
    have hH : Go.Sort.HoldsK jP 2 w blk 0 ys.toArray := by
      unfold Go.Sort.HoldsK
      rw [J0]
      exact JZ (enc := id) hw'
    have hA : ∀ w, (isAgg 100).run Tryz.prog w = .ok true w := fun w => by kernel_rfl
    have hZ : ∀ w, (Go.sizeOf 100).run Tryz.prog w = .ok 2 w := fun w => by kernel_rfl
    have hE : ∀ args w, (callFunc 80 args).run Tryz.prog w = .ok (.enter 80 args) w := (inferInstance : Go.Sx.Enters Tryz.prog 80).h
    have hall := Go.Proofs.AnyQ.slices_SortFunc_total Go.Proofs.Tryz.laysSortF 2 hA hZ jP (fun _ => rfl)
    have h1c : ∀ x, ∀ v ∈ jP x, v.oneCell' = true := fun x v hv => by
      simp only [jP, zP, List.mem_cons, List.not_mem_nil, or_false] at hv
      rcases hv with rfl | rfl <;> rfl
    have hT : ∀ x y, (Go.Proofs.ltOf YA) x y = false → (Go.Proofs.ltOf YA) y x = false → x = y := fun x y h1 h2 => by
      unfold Go.Proofs.ltOf YA at h1 h2
      have h1 := of_decide_eq_false h1
      have h2 := of_decide_eq_false h2
      have := xj x.1 y.1
      exact Subtype.ext (Jq x.2 y.2 (by omega) (by omega))
    have hblk : blk < w.heap.size := hw.lt (p := (blk, _)) (by simp; exact .inl rfl)
    have hfin := hall h1c YA swo_PT 80 #[.pointer (some ⟨b, 0, none⟩)] blk 0 cap ys.toArray w hE hcmp hH hblk (by simp; omega) hT
    have hsz : ys.toArray.size = xs.length := by simp [hyl]
    rw [hsz] at hfin
    refine hfin.mono fun e w' ⟨h2, k, os, h3⟩ => ?_
    have hml : (ys.mergeSort (fun x y => !(Go.Proofs.ltOf YA) y x)).length = ys.length := List.length_mergeSort _
    have hk := key k os (ys.mergeSort (fun x y => !(Go.Proofs.ltOf YA) y x)) hml
    rw [List.map_id, VG, srt_PT, hys] at hk
    have hsl : (YP xs).length = xs.length := List.length_mergeSort _
    refine ⟨_, _, h2, ⟨rfl, _, ?_, rfl⟩, by rw [h3]; exact hk⟩
    refine .inr ⟨blk, cap, sp, rfl, by rw [ka y4, hsl], rfl, ?_, hnc⟩
    rw [List.length_append, ka y4] at hcap
    rw [List.length_append, ka y4, hsl]; exact hcap
theorem shelfP : xo := ⟨shelf_sortP⟩
end
open Go Go.Sx Go.Nd Go.RowKit Go.Deep Go.ChangeShapes Go.WideShapes Go.ChangeAt
section
variable {w0 : World} {L F : Res}
end
set_option maxRecDepth 100000
section
variable {w0 : World} {L F : Res}
theorem own_knob : ownKnob Tryz.prog.godebug = none := by kernel_rfl
theorem laid_out : laidOutB Tryz.prog = true := by kernel_rfl
theorem door_met (os : Os) (args : Array Value) : laidMetH Tryz.prog Jg ((World.doorLaid Tryz.prog 400 os).forCall (fun _ _ => 0) ⟨#[], args, []⟩).memory :=
  laidMetH_of_parts3 (fuel := 8) (laidMet_of_run' 8 (by kernel_rfl) (by kernel_rfl)) (by kernel_rfl) (by kernel_rfl)
theorem Zi {W : World} {H : Type} {enc : TypeId × Value → H} {sp : Nat → Bool} {base : Nat} {held : Bool} {t : TypeId} {ts : List TypeId} {vs : List Value} {ds : List (DataW H)} {p : List MemPlace} (h : DataW.TrodAll enc Tryz.prog W base sp held (t :: ts) vs ds p) :
    ∃ v vs' d ds' p0 q, vs = v :: vs' ∧ ds = d :: ds' ∧ DataW.Trod enc Tryz.prog W base sp held t v d p0 ∧ DataW.TrodAll enc Tryz.prog W base sp held ts vs' ds' q ∧ p = p0 ++ q := by
  cases vs with
  | nil => cases ds <;> exact h.elim
  | cons v vs =>
    cases ds with
    | nil => exact h.elim
    | cons d ds =>
      obtain ⟨p0, q, h1, h2, h3⟩ := h
      exact ⟨v, vs, d, ds, p0, q, rfl, rfl, h1, h2, h3⟩
theorem trodAll_nil {W : World} {H : Type} {enc : TypeId × Value → H} {sp : Nat → Bool} {base : Nat} {held : Bool} {vs : List Value} {ds : List (DataW H)} {p : List MemPlace} (h : DataW.TrodAll enc Tryz.prog W base sp held [] vs ds p) : vs = [] ∧ ds = [] ∧ p = [] := by
  cases vs with
  | nil => cases ds with
    | nil => exact ⟨rfl, rfl, h⟩
    | cons d ds => exact h.elim
  | cons v vs => cases ds <;> exact h.elim
theorem acts_of {W : World} {R : Res} {H : Type} {enc : TypeId × Value → H} {base : Nat} {v : Value} {d : DataW H} {p : List MemPlace} (hall : ∀ i o, W.heap[i]? = some o → (i, o) ∈ R.flatten) (hv : Value.okWide Tryz.prog W .any base 22 v)
    (h : DataW.Trod enc Tryz.prog W 0 (fun _ => true) true 22 v d p) : ∃ (q : Option Addr) (c : Nat) (acts : List Z1), v = .slice q acts.length c ∧ Xd R q c acts ∧ (acts.length : Int) ≤ 9223372036854775807 := by
  obtain ⟨a0, len0, cap0, rfl⟩ := okWide_slice (e := 25) (by kernel_rfl) hv
  obtain ⟨f, hf⟩ := h
  obtain ⟨qa, ca, acts, hcs0, hacts, hlen⟩ := acts_open hall hf
  simp only [Value.cells, List.cons.injEq, Value.slice.injEq, and_true] at hcs0
  obtain ⟨rfl, rfl, rfl⟩ := hcs0
  exact ⟨_, _, acts, rfl, hacts, hlen⟩
theorem act_of {W : World} {R : Res} {H : Type} {enc : TypeId × Value → H} {base : Nat} {v : Value} {d : DataW H} {p : List MemPlace} (hall : ∀ i o, W.heap[i]? = some o → (i, o) ∈ R.flatten) (hv : Value.okWide Tryz.prog W .any base 25 v)
    (h : DataW.Trod enc Tryz.prog W 0 (fun _ => true) true 25 v d p) : ∃ a : Z1, v = .agg (Ym a).toArray ∧ X4 R a := by
  obtain ⟨cs1, rfl, hsz1⟩ := okWide_struct Tryz.underlying25 hv
  obtain ⟨f, hf⟩ := h
  obtain ⟨a, hcs1, ha⟩ := VK hall hf
  have e1 : cs1 = (Ym a).toArray := by
    obtain ⟨l⟩ := cs1
    exact congrArg List.toArray (show l = Ym a from hcs1)
  exact ⟨a, by rw [e1], ha⟩
theorem und4 : Tryz.prog.underlying 4 = some .bool := by kernel_rfl
theorem JR {W W' : World} {H : Type} {enc : TypeId × Value → H} {t : TypeId} {v : Value} {d : DataW H} {p : List MemPlace} (hr : Tryz.prog.readableRec t = true) (ht : t < Tryz.prog.types.size) (h : DataW.Trod enc Tryz.prog W 0 (fun _ => true) true t v d p)
    (hb : Below W.heap.size W W') (hlt : ∀ x ∈ p, x.block < W.heap.size) : DataW.Trod enc Tryz.prog W' 0 (fun b => decide (b < W.heap.size)) true t v d p := Below.trod laid_out hr ht h hb hlt
theorem Me : Tryz.prog.readableRec 22 = true ∧ 22 < Tryz.prog.types.size := ⟨by kernel_rfl, of_decide_eq_true (by kernel_rfl)⟩
theorem Md : Tryz.prog.readableRec 25 = true ∧ 25 < Tryz.prog.types.size := ⟨by kernel_rfl, of_decide_eq_true (by kernel_rfl)⟩
theorem parts_nodup : allParts.Nodup := by
  unfold allParts
  rw [List.nodup_append]
  refine ⟨?_, ?_, ?_⟩
  · exact List.pairwise_map.2 (List.nodup_range.imp fun {a b} h e => h (Int.ofNat_inj.1 (congrArg Prod.snd e)))
  · rw [List.nodup_append]
    refine ⟨List.pairwise_map.2 (List.nodup_range.imp fun {a b} h e => h (Int.ofNat_inj.1 (congrArg Prod.snd e))), by decide, fun a ha b hb => ?_⟩
    obtain ⟨i, _, rfl⟩ := List.mem_map.1 ha
    simp at hb
    rcases hb with rfl | rfl | rfl <;> simp
  · intro a ha b hb
    obtain ⟨i, _, rfl⟩ := List.mem_map.1 ha
    rcases List.mem_append.1 hb with hb | hb
    · obtain ⟨j, _, rfl⟩ := List.mem_map.1 hb; simp
    · simp at hb
      rcases hb with rfl | rfl | rfl <;> simp
end
section
variable {n : NS} {W : RS} {D : Int → Option Sec} {nx : Int}
theorem Vv (h : Cpl n W) (hI : Inv W D nx) : jI n = Qu W := by
  unfold jI Qu
  apply List.filter_congr
  intro i hi
  have hb : InB i := by
    obtain ⟨j, hj, rfl⟩ := List.mem_map.1 hi
    have := List.mem_range.1 hj
    exact ⟨by omega, by omega⟩
  have h1 := hI.has i hb
  have h2 := h.data i hb
  have h3 := h.at_ (1, i) (yH hb)
  have h4 : qy W (1, i) = (W.all i).at_ := by unfold qy; rw [if_pos rfl]
  rw [Bool.eq_iff_iff, decide_eq_true_eq, h1]
  unfold xM
  rw [h3, h4, h2]
  by_cases hf : (W.all i).fresh = true
  · simp [hf]
  · simp [hf]
end
open Go Go.Sx Go.Nd Go.RowKit Go.Maps Go.Sort
section
variable {n : NS} {W : RS} {D : Int → Option Sec} {nx : Int}
end
section
variable {w0 : World}
theorem laidOut_prog : laidOutB Tryz.prog = true := by kernel_rfl
theorem key100 : Keyed Tryz.prog 100 := Keyed.of_law (deep_law_laid laidOut_prog (m := 2) (by omega) (of_decide_eq_true (by kernel_rfl)) (by kernel_rfl) (by kernel_rfl))
theorem und88 : Tryz.prog.underlying 88 = some (.map 100 3) := by kernel_rfl
def X7 : Value → Option (DataW Unit × List MemPlace)
  | .int .i64 a => some (.lit (.int .i64 a), [])
  | _ => none
theorem Xh {v : Value} {y : DataW Unit × List MemPlace} (h : X7 v = some y) : ∃ c : Int, v = .int .i64 c ∧ y = (.lit (.int .i64 c), []) := by
  unfold X7 at h
  split at h
  · cases h; exact ⟨_, rfl, rfl⟩
  · cases h
set_option maxHeartbeats 1000000 in
theorem values1_in (F : Fence) (n : Nat) (hf : F.fn 83) (hro : F.round = none) (hn : 1 ≤ n) (l Bm b nn : Nat) (D0 : DataW Unit) (J : List Int → World → Prop)
    (hkey : ∀ v kl, keyOf Tryz.prog 100 v = some kl → ∃ s, kl = .string s)
    (hY : ∀ pre x W, J pre W → pre.length < Maps.size D0 → YieldAt F (n - 1) Tryz.prog l #[.int .i64 x] W fun e W' => e = .returned (.bool true) ∧ J (pre ++ [x]) W' ∧ KeepsWalks W W')
    (W : World) (hJ : AbidesFrom W.heap.size J) (hm : W.cell? ⟨Bm, 0, none⟩ = some (.map (some b))) (hown : W.ownsMap Tryz.prog 100 X7 b nn D0) (h0 : J [] W) :
    CallsIn F n Tryz.prog 83 #[.func (.yield l) #[] #[], .pointer (some ⟨Bm, 0, none⟩)] W fun e W' => (∃ v, e = .returned v) ∧
      ∃ ps : List (List UInt8 × Int), (ps.map (·.1)).Nodup ∧ (∀ x, x ∈ ps.map (·.1) ↔ has D0 (.string x) = true) ∧ (∀ p ∈ ps, ∀ zd, D0.atKey (.string p.1) zd = .lit (.int .i64 p.2)) ∧ J (ps.map (·.2)) W' := by
  refine callsIn_of_wp Tryz.func83 rfl hf ?_ hro
  simp only [Tryz.ntmps83, List.size_toArray, List.length_cons, List.length_nil, Nat.reduceAdd, Nat.reduceSub, Array.replicate_succ, Array.replicate_zero, List.push_toArray, List.append_toArray, List.nil_append, List.cons_append]
  gi_wp2_with (first
    | (gi_at_range; refine wpListIn_range_own _ rfl _ 88 rfl 100 3 key100 und88 _ b nn _ rfl hown ?_; intro w0 hrg0 hg0 hs0)
    | gi_in)
  go_frame
  gi_loopw [4] (fun _ wr => ∃ (left : Lit → Bool) (cnt : Nat) (ps : List (List UInt8 × Int)), wr.ranges Tryz.prog 100 X7 b W.heap.size nn D0 left cnt ∧ ps.length + cnt ≤ Maps.size D0 ∧ Collected D0 left (ps.map (·.1)) ∧ (∀ p ∈ ps, ∀ zd, D0.atKey (.string p.1) zd = .lit (.int .i64 p.2)) ∧ J (ps.map (·.2)) wr)
    (fun _ wr => wr.rangeLeft b W.heap.size)
  case atStart =>
    exact ⟨_, _, [], hrg0, by simp, Collected.start D0, by simp, hJ [] W w0 none h0 hg0 (fun r e => by cases e)⟩
  case round =>
    obtain ⟨left, cnt, ps, hrg, hcs, hC, hV, hJs⟩ := hrel
    gi_wp2_with (first
      | (gi_at_next; refine wpListIn_next_ranges _ rfl _ rfl 100 key100 X7 (id : Value → Value) (Value.int .i64) (fun key kl hk => ⟨key, rfl⟩) (fun v y hv => by obtain ⟨c, rfl, _⟩ := Xh hv; exact ⟨c, rfl⟩) b W.heap.size nn _ _ _ rfl hrg ?_ ?_)
      | gi_in)
    · intro hc0 hl0
      gi_wp2
      go_end0
      exact ⟨⟨_, rfl⟩, ps, hC.1, fun x => by rw [hC.2 x, hl0]; simp, hV, hJs⟩
    · intro x c kl yd yp w2 cnt2 hkx hlk hv hat hrg2 hlt hg2 hs2 hen
      obtain ⟨s, rfl⟩ := hkey _ _ hkx
      obtain ⟨c', ec, ez⟩ := Xh hv
      obtain rfl : c = c' := by simpa using ec
      obtain rfl : yd = .lit (.int .i64 c) := (Prod.mk.inj ez).1
      have hJ2 : J (ps.map (·.2)) w2 := hJ _ wr w2 (some W.heap.size) hJs hg2 (fun r e => by cases e; exact ⟨Nat.le_refl _, hrg.iter_walk⟩)
      obtain ⟨fn, tmps, assign, body, hy, hR⟩ := hY (ps.map (·.2)) c w2 hJ2 (by simp; omega)
      clear hs2
      gi_wp2
      refine hR.mono ?_
      have hC2 : Collected D0 (fun z => left z && !z.sameKey (.string s)) ((ps ++ [(s, c)]).map (·.1)) := by simpa using hC.step hlk hat
      have hV2 : ∀ p ∈ ps ++ [(s, c)], ∀ zd, D0.atKey (.string p.1) zd = .lit (.int .i64 p.2) := fun p hp => (List.mem_append.1 hp).elim (hV p) (fun e => by simp at e; subst e; exact hat)
      rintro e W3 ⟨rfl, hJ3, hk3⟩
      gi_wp2
      have hrg3 := hrg2.of_walks hk3
      go_roundw
      case rel => exact ⟨_, cnt2, ps ++ [(s, c)], hrg3, by simp; omega, hC2, hV2, by simpa using hJ3⟩
      case measure => rw [hrg3.left_eq, hrg.left_eq]; exact hlt
theorem key_str {v : Value} {kl : Lit} (h : keyOf Tryz.prog 100 v = some kl) : ∃ s, kl = .string s := by
  unfold keyOf at h
  rw [Tryz.underlying100] at h
  dsimp only at h
  split at h
  · cases hk : Tryz.prog.keyLits (Tryz.prog.types.size + 1) 100 v.cells.toList with
    | none => rw [hk] at h; cases h
    | some ls => rw [hk] at h; cases h; exact ⟨_, rfl⟩
  · cases h
theorem Jj (d : Nat) {a : Int} (h : (Lit.int .i64 a).wf = true) : Tryz.prog.keyLits (d + 1) 3 [.int .i64 a] = some [.int .i64 a] := by
  unfold Program.keyLits
  rw [show Tryz.prog.underlying 3 = some (.int .i64) by kernel_rfl]
  simp [h]
theorem part_wf {k : Int × Int} (hk : wC k) : (Lit.int .i64 k.1).wf = true ∧ (Lit.int .i64 k.2).wf = true := by
  have e1 : IntKind.i64.min = -9223372036854775808 := by decide
  have e2 : IntKind.i64.max = 9223372036854775807 := by decide
  have h : (1 ≤ k.1 ∧ k.1 ≤ 5) ∧ 0 ≤ k.2 ∧ k.2 < 1064 := by
    rcases hk with ⟨h1, h2, h3⟩ | rfl | rfl | rfl | ⟨h1, h2, h3⟩
    · omega
    · simp
    · simp
    · simp
    · omega
  simp only [Lit.wf, e1, e2, Bool.and_eq_true, decide_eq_true_eq]
  omega
theorem V1 {k : Int × Int} (hk : wC k) : ∃ s, keyOf Tryz.prog 100 (yO k) = some (.string s) := by
  obtain ⟨w1, w2⟩ := part_wf hk
  have c2 : Tryz.prog.cellsOf 100 = 2 := by kernel_rfl
  have c3 : Tryz.prog.cellsOf 3 = 1 := by kernel_rfl
  have kt : Tryz.prog.keyType 100 = true := by kernel_rfl
  have hp : 0 < Tryz.prog.types.size := of_decide_eq_true (by kernel_rfl)
  obtain ⟨d, hd⟩ : ∃ d, Tryz.prog.types.size = d + 1 := ⟨Tryz.prog.types.size - 1, by omega⟩
  have h1 : ∃ ls, Tryz.prog.keyLits (Tryz.prog.types.size + 1) 100 [.int .i64 k.1, .int .i64 k.2] = some ls := by
    rw [hd]
    unfold Program.keyLits
    rw [Tryz.underlying100]
    simp [c2, c3, Jj d w1, Jj d w2]
  obtain ⟨ls, hl⟩ := h1
  refine ⟨keyBytes ls, ?_⟩
  unfold keyOf
  rw [Tryz.underlying100]
  show (if Tryz.prog.keyType 100 && (yO k).formed Tryz.prog 100 then _ else none) = _
  have hf : (yO k).formed Tryz.prog 100 = true := by
    unfold yO Value.formed
    rw [Tryz.underlying100]
    simp [c2]
  rw [kt, hf]
  show (Tryz.prog.keyLits (Tryz.prog.types.size + 1) 100 [.int .i64 k.1, .int .i64 k.2]).map _ = _
  rw [hl]; rfl
noncomputable def kB (k : Int × Int) : List UInt8 := open Classical in if h : ∃ s, keyOf Tryz.prog 100 (yO k) = some (.string s) then Classical.choose h else []
theorem VU {k : Int × Int} (hk : wC k) : keyOf Tryz.prog 100 (yO k) = some (.string (kB k)) := by
  unfold kB
  rw [dif_pos (V1 hk)]
  exact Classical.choose_spec (V1 hk)
theorem V5 {k q : Int × Int} (h : yO k = yO q) : k = q := by
  have h1 : [Value.int .i64 k.1, Value.int .i64 k.2] = [Value.int .i64 q.1, Value.int .i64 q.2] := by
    unfold yO at h
    have h2 := Value.agg.inj h
    exact congrArg Array.toList h2
  simp only [List.cons.injEq, Value.int.injEq, true_and, and_true] at h1
  exact Prod.ext h1.1 h1.2
theorem MK {k q : Int × Int} (hk : wC k) (hq : wC q) (e : kB k = kB q) : k = q := by
  have h1 := key100.inj (VU hk) (by rw [e]; exact VU hq)
  exact V5 h1
noncomputable def Xi (al : List ((Int × Int) × Int)) : List (Lit × DataW Unit) := al.map fun p => (.string (kB p.1), .lit (.int .i64 p.2))
noncomputable def KS (al : List ((Int × Int) × Int)) : DataW Unit := .map ((Xi al).foldr DataW.insert [])
theorem valE_apart {al : List ((Int × Int) × Int)} (hn : (zU al).Nodup) (hp : ∀ k ∈ zU al, wC k) : (Xi al).Pairwise (fun p q => p.1 ≠ q.1) := by
  unfold Xi
  refine List.pairwise_map.2 ?_
  have := List.pairwise_map.1 hn
  refine this.imp_of_mem fun {a b} ha hb hne e => hne ?_
  exact MK (hp _ (List.mem_map.2 ⟨a, ha, rfl⟩)) (hp _ (List.mem_map.2 ⟨b, hb, rfl⟩)) (by simpa using e)
theorem QN (l : Lit) (s : List UInt8) : l.sameKey (.string s) = true ↔ l = .string s := by
  cases l <;> simp [Lit.sameKey]
theorem find_apart : ∀ (es : List (Lit × DataW Unit)), es.Pairwise (fun p q => p.1 ≠ q.1) → ∀ (s : List UInt8) (d : DataW Unit), (Lit.string s, d) ∈ es → es.find? (fun p => p.1.sameKey (.string s)) = some (.string s, d) := by
  intro es
  induction es with
  | nil => intro _ s d h; cases h
  | cons e es ih =>
    intro hp s d h
    rw [List.find?_cons]
    rcases List.mem_cons.1 h with rfl | h
    · rw [show (Lit.string s).sameKey (.string s) = true from (QN _ _).2 rfl]
    · have h1 := (List.pairwise_cons.1 hp).1 _ h
      have h2 : e.1.sameKey (.string s) = false := by
        cases h3 : e.1.sameKey (.string s) with
        | false => rfl
        | true => exact absurd ((QN _ _).1 h3) h1
      rw [h2]
      exact ih (List.pairwise_cons.1 hp).2 s d h
theorem KR (al : List ((Int × Int) × Int)) (p : Lit × DataW Unit) : p ∈ (Xi al).foldr DataW.insert [] ↔ p ∈ Xi al := (Go.WideShapes.sorted_perm _).mem_iff
theorem Xj (al : List ((Int × Int) × Int)) (x : List UInt8) : has (KS al) (.string x) = true ↔ ∃ p ∈ al, kB p.1 = x := by
  unfold KS
  rw [has_eq, List.any_eq_true]
  constructor
  · rintro ⟨p, hp, h⟩
    rw [KR] at hp
    obtain ⟨q, hq, rfl⟩ := List.mem_map.1 hp
    exact ⟨q, hq, by simpa using (QN _ _).1 h⟩
  · rintro ⟨q, hq, rfl⟩
    exact ⟨_, (KR _ _).2 (List.mem_map.2 ⟨q, hq, rfl⟩), (QN _ _).2 rfl⟩
theorem valD_at {al : List ((Int × Int) × Int)} (hn : (zU al).Nodup) (hp : ∀ k ∈ zU al, wC k) {q : (Int × Int) × Int} (hq : q ∈ al) (zd : DataW Unit) : (KS al).atKey (.string (kB q.1)) zd = .lit (.int .i64 q.2) := by
  unfold KS DataW.atKey
  have h1 : ((Xi al).foldr DataW.insert []).Pairwise (fun p q => p.1 ≠ q.1) := ((Go.WideShapes.sorted_perm _).pairwise_iff (fun {_ _} hne => Ne.symm hne)).2 (valE_apart hn hp)
  dsimp only
  rw [find_apart _ h1 _ _ ((KR _ _).2 (List.mem_map.2 ⟨q, hq, rfl⟩))]
theorem vals_perm {al : List ((Int × Int) × Int)} (hn : (zU al).Nodup) (hp : ∀ k ∈ zU al, wC k) {ps : List (List UInt8 × Int)} (h1 : (ps.map (·.1)).Nodup) (h2 : ∀ x, x ∈ ps.map (·.1) ↔ has (KS al) (.string x) = true)
    (h3 : ∀ p ∈ ps, ∀ zd, (KS al).atKey (.string p.1) zd = .lit (.int .i64 p.2)) : (ps.map (·.2)).Perm (al.map (·.2)) := by
  have hA : (al.map fun p => (kB p.1, p.2)).map (·.2) = al.map (·.2) := by rw [List.map_map]; rfl
  rw [← hA]
  refine List.Perm.map _ ?_
  have nA : (al.map fun p => (kB p.1, p.2)).Nodup := by
    refine List.pairwise_map.2 ?_
    have := List.pairwise_map.1 hn
    exact this.imp_of_mem fun {a b} ha hb hne e => hne (MK (hp _ (List.mem_map.2 ⟨a, ha, rfl⟩)) (hp _ (List.mem_map.2 ⟨b, hb, rfl⟩)) (congrArg Prod.fst e))
  have nP : ps.Nodup := (List.pairwise_map.1 h1).imp fun {a b} hne e => hne (congrArg Prod.fst e)
  have key : ∀ q ∈ al, ∀ p ∈ ps, p.1 = kB q.1 → p.2 = q.2 := fun q hq p hpp e => by
    have e1 := h3 p hpp .nil
    rw [e, valD_at hn hp hq .nil] at e1
    simpa using e1.symm
  refine (List.perm_ext_iff_of_nodup nP nA).2 fun p => ?_
  constructor
  · intro h
    obtain ⟨q, hq, e⟩ := (Xj al p.1).1 ((h2 p.1).1 (List.mem_map.2 ⟨p, h, rfl⟩))
    exact List.mem_map.2 ⟨q, hq, Prod.ext e (key q hq p h e.symm).symm⟩
  · intro h
    obtain ⟨q, hq, rfl⟩ := List.mem_map.1 h
    obtain ⟨p, hpp, e⟩ := List.mem_map.1 ((h2 (kB q.1)).2 ((Xj al _).2 ⟨q, hq, rfl⟩))
    have e2 := key q hq p hpp e
    exact (show p = (kB q.1, q.2) from Prod.ext e e2) ▸ hpp
theorem al_parts {al : List ((Int × Int) × Int)} {f : Int × Int → Option Int} (hn : (zU al).Nodup) (hg : ∀ k, yB al k = f k) (hp : ∀ k, f k ≠ none → wC k) : (al.map (·.2)).Perm (allParts.filterMap f) := by
  have e1 : allParts.filterMap f = (allParts.filterMap fun k => (f k).map fun v => (k, v)).map (·.2) := by
    rw [List.map_filterMap]
    congr 1
    funext k
    cases f k <;> rfl
  rw [e1]
  refine List.Perm.map _ ?_
  have nA : al.Nodup := (List.pairwise_map.1 hn).imp fun {a b} hne e => hne (congrArg Prod.fst e)
  have nB : (allParts.filterMap fun k => (f k).map fun v => (k, v)).Nodup := by
    refine List.pairwise_filterMap.2 (parts_nodup.imp fun {a b} hne x hx y hy e => hne ?_)
    subst e
    cases ha : f a with
    | none => rw [ha] at hx; cases hx
    | some u =>
      cases hb : f b with
      | none => rw [hb] at hy; cases hy
      | some v => rw [ha] at hx; rw [hb] at hy; cases hx; cases hy; rfl
  refine (List.perm_ext_iff_of_nodup nA nB).2 fun p => ?_
  rw [List.mem_filterMap]
  constructor
  · intro h
    have h1 := xJ hn (show (p.1, p.2) ∈ al from h)
    rw [hg] at h1
    exact ⟨p.1, (kY _).2 (hp _ (by rw [h1]; simp)), by rw [h1]; rfl⟩
  · rintro ⟨k, hk, e⟩
    cases hf : f k with
    | none => rw [hf] at e; cases e
    | some v =>
      rw [hf] at e
      cases e
      exact Jy (by rw [hg]; exact hf)
theorem own_vals {w : World} {md : Nat} {al : List ((Int × Int) × Int)} {es : List MapEntry} {clock : Nat} (hm : w.heap[md]? = some (.map es.toArray clock)) (he : Entries yO (Value.int .i64) al es clock) (hr : ∀ k ∈ zU al, wC k) :
    w.ownsMap Tryz.prog 100 X7 md 1099 (KS al) := by
  have hlen : es.length ≤ 1099 := by
    have h1 : es.length = (zU al).length := by rw [kF he]; simp [zU]
    have h2 := yS (l2 := allParts) he.nodup (fun k hk => (kY k).2 (hr k hk))
    have h3 : allParts.length = 1099 := by simp [allParts]
    omega
  have hkeys : es.map (·.key) = (zU al).map yO := by
    have := congrArg (List.map Prod.fst) he.pairs
    simpa [zU, List.map_map, Function.comp_def] using this
  have hrd : ∀ (i : Nat) (x : MapEntry) (p : (Int × Int) × Int), es[i]? = some x → al[i]? = some p → Go.WideElems.rd Tryz.prog 100 X7 x = some (.string (kB p.1), .lit (.int .i64 p.2)) := fun i x p hx hpp => by
    obtain ⟨e, h1, h2, h3⟩ := j1 he (q := p.1) (v := p.2) hpp
    rw [hx] at h1; cases h1
    unfold Go.WideElems.rd
    rw [h2, VU (hr _ (List.mem_map.2 ⟨p, List.mem_of_getElem? hpp, rfl⟩)), h3]; rfl
  have hget : ∀ (i : Nat) (x : MapEntry), es[i]? = some x → ∃ p, al[i]? = some p := fun i x hx => by
    have := (List.getElem?_eq_some_iff.1 hx).1
    exact ⟨_, List.getElem?_eq_getElem (by rw [← kF he]; exact this)⟩
  refine ⟨es.toArray, clock, hm, ⟨by simp [maxLen]; omega, ⟨fun x hx => he.young x (by simpa using hx), ?_, ?_⟩, fun x hx => ?_⟩, by simpa using hlen, ?_⟩
  · have := he.asc.imp (fun {a b} (h : a < b) => Nat.ne_of_lt h)
    simpa [List.Nodup] using this
  · show (es.map (·.key)).Nodup
    rw [hkeys]
    refine List.pairwise_map.2 (he.nodup.imp_of_mem fun {a b} ha hb hne e => hne ?_)
    exact V5 e
  · obtain ⟨i, hi⟩ := List.mem_iff_getElem?.1 (show x ∈ es by simpa using hx)
    obtain ⟨p, hpp⟩ := hget i x hi
    exact ⟨_, hrd i x p hi hpp⟩
  · unfold KS Xi
    congr 1
    congr 1
    apply List.ext_getElem?
    intro i
    simp only [List.getElem?_map]
    cases hx : es[i]? with
    | none =>
      have : al[i]? = none := by rw [List.getElem?_eq_none_iff] at hx ⊢; rw [← kF he]; exact hx
      simp [this, hx]
    | some x =>
      obtain ⟨p, hpp⟩ := hget i x hx
      simp only [hx, hpp, Option.map_some, Option.some.injEq]
      unfold Go.WideElems.rg
      rw [hrd i x p hx hpp]
      rfl
theorem JQ (al : List ((Int × Int) × Int)) : Maps.size (KS al) = al.length := by
  show (List.foldr DataW.insert [] _).length = _
  unfold Xi
  rw [length_sorted, List.length_map]
theorem gives_vals (Dp b md nn : Nat) (D0 : DataW Unit) (w : World) (hb : b < w.heap.size) (hc : w.cell? ⟨b, 0, none⟩ = some (.map (some md))) (hown : w.ownsMap Tryz.prog 100 X7 md nn D0) :
    SeqGives (Fence.list [49, 82, 83] (some Dp)) 1 Tryz.prog 83 #[.pointer (some ⟨b, 0, none⟩)] encZ (fun xs => ∃ ps : List (List UInt8 × Int), (ps.map (·.1)).Nodup ∧ (∀ x, x ∈ ps.map (·.1) ↔ has D0 (.string x) = true) ∧ (∀ p ∈ ps, ∀ zd, D0.atKey (.string p.1) zd = .lit (.int .i64 p.2)) ∧ xs = ps.map (·.2)) (Maps.size D0) w := fun l J W hW hJ hY h0 => by
  have hown' : W.ownsMap Tryz.prog 100 X7 md nn D0 := by
    have hbl := hown.lt
    obtain ⟨es, clock, hb, Ft, hs, hD⟩ := hown
    exact ⟨es, clock, (hW.block md hbl).trans hb, Ft, hs, hD⟩
  refine (values1_in (Fence.list [49, 82, 83] (some Dp)) 1 (by simp [Fence.list]) rfl (by omega) l b md nn D0 J (fun v kl h => key_str h) hY W hJ ((hW.cell (p := ⟨b, 0, none⟩) hb).trans hc) hown' h0).mono ?_
  rintro e W' ⟨he, ps, h1, h2, h3, h4⟩
  exact ⟨he, _, ⟨ps, h1, h2, h3, rfl⟩, h4⟩
theorem shelf_values (hd : w0.drawn = 0) (F : Res) (b md : Nat) (e : TypeId) (fr : Nat × Nat) (od : Obj) (f : Int × Int → Option Int) (ho : MapF yO (Value.int .i64) f od) (hf : ∀ k, f k ≠ none → wC k) :
    FnT Tryz.prog w0 49 #[.func (.func 83) [].toArray [.pointer (some ⟨b, 0, none⟩)].toArray] ([(b, .cells [Value.map (some md)].toArray e fr)] :: [(md, od)] :: F)
      (fun v L' => ∃ xs C, SlC 3 1 v xs.length (iV xs) C ∧ xs.Perm (allParts.filterMap f) ∧ L' = C :: [(b, .cells [Value.map (some md)].toArray e fr)] :: [(md, od)] :: F) := by
  refine ⟨fun w hw => ?_⟩
  obtain ⟨al, ⟨es, clock, rfl, he⟩, hg⟩ := ho
  have hk : ∀ k ∈ zU al, wC k := fun k hk => hf k (by
    rw [← hg k]
    have := WP (l := al) (q := k)
    intro h2; exact this.1 h2 hk)
  have hb : w.heap[b]? = some (.cells [Value.map (some md)].toArray e fr) := hw.at_ (b, _) (by simp)
  have hm : w.heap[md]? = some (.map es.toArray clock) := hw.at_ (md, _) (by simp)
  have hown := own_vals hm he hk
  have hlen : al.length ≤ 1099 := by
    obtain ⟨_, _, h1, _, h2, _⟩ := hown
    rw [hm] at h1; cases h1
    rw [← kF he]; simpa using h2
  have hcell : w.cell? ⟨b, 0, none⟩ = some (.map (some md)) := by rw [KM hb]; rfl
  have hcall : Calls Tryz.prog 49 #[.func (.func 83) #[] #[.pointer (some ⟨b, 0, none⟩)]] w _ := calls_of_every_depth (L := [49, 82, 83]) (n := 3) fun Dp => J7 (g := 83) [49, 82, 83] (by simp) (by simp) (by simp) #[.pointer (some ⟨b, 0, none⟩)] Dp _ (Maps.size (KS al)) (by rw [JQ]; simp [maxLen]; omega) (by rw [JQ]; omega) w
      (gives_vals Dp b md 1099 (KS al) w (hw.lt (p := (b, .cells [Value.map (some md)].toArray e fr)) (by simp)) hcell hown)
  refine hcall.mono fun e' w' ⟨v, ss, h1, ⟨ps, g1, g2, g3, g4⟩, h3, h4, h5⟩ => ?_
  subst g4
  obtain ⟨C, h6, h7⟩ := Ja (C := []) hd hw h5 h3
  exact ⟨v, _, h1, ⟨_, C, h6, (vals_perm he.nodup hk g1 g2 g3).trans (al_parts he.nodup hg hf), rfl⟩, h7⟩
theorem shelfV (hd : w0.drawn = 0) : JG w0 := ⟨shelf_values hd⟩
end
section
variable {w0 : World} {L F : Res} {ba bl : Nat}
variable {w0 : World} {L F : Res} {ba bl : Nat}
theorem filterMap_at {n : NS} {W : RS} (h : Cpl n W) : ∀ l : List (Int × Int), (∀ k ∈ l, wC k) → l.filterMap n.at_ = nz (l.map (qy W)) := by
  intro l
  induction l with
  | nil => intro _; rfl
  | cons k l ih =>
    intro hl
    have h1 := h.at_ k (hl k (by simp))
    have h2 := ih (fun q hq => hl q (by simp [hq]))
    rw [List.filterMap_cons, List.map_cons, h2]
    unfold nz
    rw [List.filter_cons]
    cases e : n.at_ k with
    | none => rw [e] at h1; simp only [Option.getD_none] at h1; rw [if_neg (by simp [← h1])]
    | some a =>
      have h3 := h.ok.at2 k a e
      rw [e] at h1; simp only [Option.getD_some] at h1
      rw [if_pos (by simp only [decide_eq_true_eq, ← h1, ne_eq]; omega), ← h1]
theorem MI (a b : List Int) : nz (a ++ b) = nz a ++ nz b := by unfold nz; exact List.filter_append ..
theorem sectors_eq {n : NS} {W : RS} (h : Cpl n W) : xA n = Zl W := by
  unfold xA Zl
  refine KV ?_
  have h1 := filterMap_at h allParts (fun k hk => (kY k).1 hk)
  have h2 : nz (allParts.map (qy W)) = YF W 1064 ++ (lvA W 32 ++ nz (Qp W)) := by
    unfold allParts YF lvA zo
    rw [List.map_append, List.map_append, MI, MI, List.take_of_length_le (by simp), List.take_of_length_le (by simp), List.map_map, List.map_map, List.map_map, List.map_map]
    rfl
  rw [h1, h2]
  unfold ME
  refine (List.perm_append_comm).trans ?_
  rw [List.append_assoc, List.append_assoc]
  exact (h.gone.append_right _)
theorem is_ok (H : jJ w0) (HP : xo) (HV : JG w0) (x p md : Nat) (v : List Value) (nx : Int) (dn : Bool) (od : Obj) (n : NS) (W : RS) (D : Int → Option Sec) (Cn C G : qV)
    (hn : NodeC p n Cn) (hw : RefC ba bl W v C) (hg : kn G) (hC : Cpl n W) (hI : Inv W D nx) (hgn : n.gone.length ≤ 800000) (hgl : W.gone.length ≤ 800000) :
    FnT Tryz.prog w0 24 #[.pointer (some ⟨x, 0, none⟩)] (StD x p v md nx dn od :: Cn :: C :: G :: F) (fun r L' => r = .bool true ∧ L' = StD x p v md nx dn od :: Cn :: C :: G :: F) := by
  have hv := hw.len
  have hix : jI n = Qu W := Vv hC hI
  have hix2 : ∀ i ∈ Qu W, 0 ≤ i ∧ i < 1064 := fun i hi => by
    unfold Qu at hi
    obtain ⟨j, hj, rfl⟩ := List.mem_map.1 (List.mem_filter.1 hi).1
    have := List.mem_range.1 hj
    omega
  have hixl : (Qu W).length ≤ 1064 := by unfold Qu; refine Nat.le_trans (List.length_filter_le _ _) ?_; simp
  have hpp : yE n = zh W := hC.parts hI.has
  have hpl : (zh W).length ≤ 1100 := x5 W
  have hsl : (xA n).length ≤ 801100 := by
    unfold xA; rw [Z5, List.length_append]; have := jF n.at_; omega
  obtain ⟨ug, Cg, hlv, hsg, hCC⟩ := id hw
  refine qh (E0 := [(0, _)]) (N := 99) Tryz.func24 rfl rfl rfl rfl ?_
  refine qP <| qD rfl <| qF <| zb (Γ := {pΓ : (Nat) // (fun (y : Nat) => True) pΓ}) (fun g => (fun (y : Nat) => [(0, .pointer (some ⟨x, 0, none⟩)), (3, .pointer (some ⟨p, 0, none⟩)), (4, .pointer (some ⟨y, 0, none⟩))]) g.1) (fun g => (fun (y : Nat) => [(y, .cells v.toArray 41 (0, 0))] :: StD x p v md nx dn od :: Cn :: C :: G :: F) g.1) ?_ ?_
  ·
   refine yT w8 (show TrS _ _ _ _ [false, false, false, false, false, false, false, false, false, false, false] _ _ _ from ?_)
   refine qJ 0 rfl rfl rfl (wP rfl) <| qJ 1 rfl rfl rfl (zw rfl) <| qJ 2 rfl rfl rfl (wn rfl) <| qJ 4 rfl rfl rfl (wP rfl) <| qJ 5 rfl rfl rfl (zw rfl) <| qJ 6 rfl rfl rfl (wn rfl) <| xX (i := 3) (j := 7) (k := 8) (by kernel_rfl) rfl ?_ ?_ ?_
   ·
    refine qe rfl rfl rfl (qH rfl jL) <| wy (i := 7) (j := 8) (by kernel_rfl) rfl ?_ ?_
    ·
     refine qe rfl rfl rfl (zZ (r := v) rfl (kT hv) hv) <| qR 8 rfl <| wB rfl rfl rfl (qn) ?_
     rintro t4 _ ⟨b4, rfl, rfl⟩
     refine qJ 9 rfl rfl rfl (wM rfl) <| qR 10 rfl <| wR rfl rfl rfl (qq (l := node0V) rfl rfl rfl hv hw.one) <| wG <| qW ⟨b4, ?_⟩ ?_
     · (try dsimp only); all_goals trivial
     · (try dsimp only); exact qX _
    ·
     refine wB rfl rfl rfl (qn) ?_
     rintro t4 _ ⟨b4, rfl, rfl⟩
     refine qJ 9 rfl rfl rfl (wM rfl) <| qR 7 rfl <| qe rfl rfl rfl (zZ (r := v) rfl (kT hv) hv) <| qR 10 rfl <| wR rfl rfl rfl (qq (l := node0V) rfl rfl rfl hv hw.one) <| wG <| qW ⟨b4, ?_⟩ ?_
     · (try dsimp only); all_goals trivial
     · (try dsimp only); exact qX _
   ·
    refine qe rfl rfl rfl (zZ (r := v) rfl (kT hv) hv) <| wy (i := 3) (j := 8) (by kernel_rfl) rfl ?_ ?_
    ·
     refine qe rfl rfl rfl (qH rfl jL) <| qR 8 rfl <| wB rfl rfl rfl (qn) ?_
     rintro t4 _ ⟨b4, rfl, rfl⟩
     refine qJ 9 rfl rfl rfl (wM rfl) <| qR 10 rfl <| wR rfl rfl rfl (qq (l := node0V) rfl rfl rfl hv hw.one) <| wG <| qW ⟨b4, ?_⟩ ?_
     · (try dsimp only); all_goals trivial
     · (try dsimp only); exact qX _
    ·
     refine wB rfl rfl rfl (qn) ?_
     rintro t4 _ ⟨b4, rfl, rfl⟩
     refine qR 3 rfl <| qe rfl rfl rfl (qH rfl jL) <| qJ 9 rfl rfl rfl (wM rfl) <| qR 10 rfl <| wR rfl rfl rfl (qq (l := node0V) rfl rfl rfl hv hw.one) <| wG <| qW ⟨b4, ?_⟩ ?_
     · (try dsimp only); all_goals trivial
     · (try dsimp only); exact qX _
   ·
    refine wB rfl rfl rfl (qn) ?_
    rintro t4 _ ⟨b4, rfl, rfl⟩
    refine wy (i := 3) (j := 7) (by kernel_rfl) rfl ?_ ?_
    ·
     refine qe rfl rfl rfl (qH rfl jL) <| qJ 9 rfl rfl rfl (wM rfl) <| qR 7 rfl <| qe rfl rfl rfl (zZ (r := v) rfl (kT hv) hv) <| qR 10 rfl <| wR rfl rfl rfl (qq (l := node0V) rfl rfl rfl hv hw.one) <| wG <| qW ⟨b4, ?_⟩ ?_
     · (try dsimp only); all_goals trivial
     · (try dsimp only); exact qX _
    ·
     refine qe rfl rfl rfl (zZ (r := v) rfl (kT hv) hv) <| qR 3 rfl <| qe rfl rfl rfl (qH rfl jL) <| qJ 9 rfl rfl rfl (wM rfl) <| qR 10 rfl <| wR rfl rfl rfl (qq (l := node0V) rfl rfl rfl hv hw.one) <| wG <| qW ⟨b4, ?_⟩ ?_
     · (try dsimp only); all_goals trivial
     · (try dsimp only); exact qX _
  rintro ⟨y, hcut⟩
  replace hcut : True := hcut
  have hT := hcut
  show Tr _ _ _ ([(0, .pointer (some ⟨x, 0, none⟩)), (3, .pointer (some ⟨p, 0, none⟩)), (4, .pointer (some ⟨y, 0, none⟩))]) ([(y, .cells v.toArray 41 (0, 0))] :: StD x p v md nx dn od :: Cn :: C :: G :: F) _ _
  refine qO <| qO <| wQ w8 <| wE [(16, .pure _), (17, .pure _), (18, .pure _), (19, .pure _)] (by kernel_rfl) rfl rfl rfl wd (qC rfl (fun X => qM rfl) <| qC rfl (fun X => wJ rfl (zS (Cn) (num_ok p n Cn hn))) <| qC rfl (fun X => qA rfl) <| qC rfl (fun X => qH rfl (show wX v 0 = some (.int .u32 W.num) by rw [hlv]; rfl)) <| ParH.nil rfl) ?_
  dsimp only [zQ, List.drop, List.length]
  refine qm (by kernel_rfl) (wz rfl rfl) ?_
  refine qm (by kernel_rfl) (qM rfl) ?_
  refine zi (s := 21) rfl (fun hg2_5 => ?_) (fun hg2_5 => ?_)
  · exact absurd hC.num hg2_5
  ·
   refine wE [(22, .pure _), (23, .pure _), (24, .pure _), (25, .pure _)] (by kernel_rfl) rfl rfl rfl wd (wH rfl rfl rfl (fun X => qM rfl) <| wH rfl rfl rfl (fun X => wJ rfl (zS (Cn) (version_ok p n Cn hn))) <| wH rfl rfl rfl (fun X => qA rfl) <| wH rfl rfl rfl (fun X => qH rfl (show wX v 1 = some (.int .u32 W.ver) by rw [hlv]; rfl)) <| ParH.nil rfl) ?_
   dsimp only [zQ, List.drop, List.length]
   refine zm (by kernel_rfl) rfl rfl (wz rfl rfl) ?_
   refine qm (by kernel_rfl) (qU rfl rfl) ?_
   refine qm (by kernel_rfl) (qM rfl) ?_
   refine zi (s := 28) rfl (fun hg2_12 => ?_) (fun hg2_12 => ?_)
   · exact absurd hC.ver hg2_12
   ·
    refine wE [(29, .pure _), (30, .pure _), (31, .pure _), (32, .pure _)] (by kernel_rfl) rfl rfl rfl wd (wH rfl rfl rfl (fun X => qM rfl) <| wH rfl rfl rfl (fun X => wJ rfl (zS (Cn) (kind_ok p n Cn hn))) <| wH rfl rfl rfl (fun X => qA rfl) <| wH rfl rfl rfl (fun X => qH rfl (show wX v 2 = some (.int .i64 W.kind) by rw [hlv]; rfl)) <| ParH.nil rfl) ?_
    dsimp only [zQ, List.drop, List.length]
    refine zm (by kernel_rfl) rfl rfl (wz rfl rfl) ?_
    refine qm (by kernel_rfl) (qU rfl rfl) ?_
    refine qm (by kernel_rfl) (qM rfl) ?_
    refine zi (s := 35) rfl (fun hg2_19 => ?_) (fun hg2_19 => ?_)
    · exact absurd hC.kind hg2_19
    ·
     refine wE [(36, .pure _), (37, .pure _), (38, .pure _), (39, .pure _)] (by kernel_rfl) rfl rfl rfl wd (wH rfl rfl rfl (fun X => qM rfl) <| wH rfl rfl rfl (fun X => wJ rfl (zS (Cn) (XC p n Cn hn))) <| wH rfl rfl rfl (fun X => qA rfl) <| wH rfl rfl rfl (fun X => qH rfl (show wX v 3 = some (.int .i64 W.size) by rw [hlv]; rfl)) <| ParH.nil rfl) ?_
     dsimp only [zQ, List.drop, List.length]
     refine zm (by kernel_rfl) rfl rfl (wz rfl rfl) ?_
     refine qm (by kernel_rfl) (qU rfl rfl) ?_
     refine qm (by kernel_rfl) (qM rfl) ?_
     refine zi (s := 42) rfl (fun hg2_26 => ?_) (fun hg2_26 => ?_)
     · exact absurd hC.size hg2_26
     ·
      refine wE [(43, .pure _), (44, .pure _), (45, .pure _), (46, .pure _)] (by kernel_rfl) rfl rfl rfl wd (wH rfl rfl rfl (fun X => qM rfl) <| wH rfl rfl rfl (fun X => wJ rfl (zS (Cn) (time_ok p n Cn hn))) <| wH rfl rfl rfl (fun X => qA rfl) <| wH rfl rfl rfl (fun X => qH rfl (show wX v 4 = some (.int .u32 W.time) by rw [hlv]; rfl)) <| ParH.nil rfl) ?_
      dsimp only [zQ, List.drop, List.length]
      refine zm (by kernel_rfl) rfl rfl (wz rfl rfl) ?_
      refine qm (by kernel_rfl) (qU rfl rfl) ?_
      refine qm (by kernel_rfl) (qM rfl) ?_
      refine zi (s := 49) rfl (fun hg2_33 => ?_) (fun hg2_33 => ?_)
      · exact absurd hC.time hg2_33
      ·
       refine wE [(50, .pure _), (51, .act ([]) (fun v C => SlC 3 1 v (jI n).length (iV (jI n)) C)), (52, .pure _)] (by kernel_rfl) rfl rfl rfl (jT [[]] rfl) (wH rfl rfl rfl (fun X => qM rfl) <| ZG rfl rfl rfl (fun X => k8 (qx rfl (W6 Cn (xS H p n Cn hn hC.ok))) (fun _ _ h => h) kP) <| wH rfl rfl rfl (fun X => wS (l := v) rfl hv) <| ParH.nil rfl) ?_
       rintro t51 C1 hs1
       dsimp only [zQ, List.drop, List.length]
       refine xL (by kernel_rfl) rfl rfl (qx rfl (wc (C) (We W v C hw))) ?_
       rintro t53 _ ⟨C2, hs2, rfl⟩
       refine zm (by kernel_rfl) rfl rfl (wJ rfl (yj (C1) (C2) (KH t51 t53 C1 C2 _ _ hs1 hs2 (by rw [hix]; omega)))) ?_
       refine zm (by kernel_rfl) rfl rfl (kN rfl) ?_
       refine qm (by kernel_rfl) (qU rfl rfl) ?_
       refine qm (by kernel_rfl) (qM rfl) ?_
       refine K7 (s := 57) rfl (fun hg2_41 => ?_) (fun hg2_41 => ?_)
       · (exfalso; rw [hix] at hg2_41; simp at hg2_41)
       ·
        refine wE [(58, .pure _), (59, .act ([]) (fun v C => SlC 3 1 v (xA n).length (iV (xA n)) C)), (60, .pure _)] (by kernel_rfl) rfl rfl rfl (jT [[]] rfl) (wH rfl rfl rfl (fun X => qM rfl) <| ZG rfl rfl rfl (fun X => k8 (qx rfl (W6 Cn (sectors_ok H HV p n Cn hn hC.ok hgn))) (fun _ _ h => h) kP) <| wH rfl rfl rfl (fun X => wS (l := v) rfl hv) <| ParH.nil rfl) ?_
        rintro t59 C3 hs3
        dsimp only [zQ, List.drop, List.length]
        refine xL (by kernel_rfl) rfl rfl (qx rfl (wc (C) (rsectors_ok W v C hw (by omega)))) ?_
        rintro t61 _ ⟨C4, hs4, rfl⟩
        refine zm (by kernel_rfl) rfl rfl (wJ rfl (yj (C3) (C4) (KH t59 t61 C3 C4 _ _ hs3 hs4 (by omega)))) ?_
        refine zm (by kernel_rfl) rfl rfl (kN rfl) ?_
        refine qm (by kernel_rfl) (qU rfl rfl) ?_
        refine wI <| qI <| y3 rfl (fun hc2 => ?_) (fun hc2 => ?_)
        · (exfalso; rw [sectors_eq hC] at hc2; simp at hc2)
        ·
         refine qZ <| qI <| qO <| wQ w8 <| wE [(65, .pure _), (66, .act ([]) (fun v C => SlC 62 4 v (yE n).length ((yE n).flatMap (Qg n.num n.ver)) C)), (67, .pure _)] (by kernel_rfl) rfl rfl rfl (jT [[]] rfl) (qC rfl (fun X => qM rfl) <| jr rfl (fun X => k8 (qx rfl (VN Cn G (ZW H HP p n Cn G hn hg hC.ok))) (fun _ _ h => h) kP) <| qC rfl (fun X => wS (l := v) rfl hv) <| ParH.nil rfl) ?_
         rintro t66 C5 hs5
         dsimp only [zQ, List.drop, List.length]
         refine wu (by kernel_rfl) (qx rfl (wc (C) (xb W v C hw))) ?_
         rintro t68 _ ⟨C6, hs6, rfl⟩
         refine qm (by kernel_rfl) (z8 rfl) ?_
         refine qm (by kernel_rfl) (z8 rfl) ?_
         refine wI <| qI <| qO <| qO ?_
         rw [hpp, hC.num, hC.ver] at hs5
         obtain ⟨q5, k5, hu5⟩ := hs5.slice
         obtain ⟨q6, k6, hu6⟩ := hs6.slice
         refine wQ w8 <| wE [(69, .pure _), (70, .pure _), (71, .pure _), (72, .pure _)] (by kernel_rfl) rfl rfl rfl wd (qC rfl (fun X => qM rfl) <| qC rfl (fun X => wD (by rw [hu5]; rfl)) <| qC rfl (fun X => qM rfl) <| qC rfl (fun X => wD (by rw [hu6]; rfl)) <| ParH.nil rfl) ?_
         dsimp only [zQ, List.drop, List.length]
         refine qm (by kernel_rfl) (wz rfl rfl) ?_
         refine qm (by kernel_rfl) (qM rfl) ?_
         refine zi (s := 74) rfl (fun hg5_5 => ?_) (fun hg5_5 => ?_)
         · exact absurd rfl hg5_5
         ·
          refine wE [(75, .pure _), (76, .pure _), (77, .pure _)] (by kernel_rfl) rfl rfl rfl wd (wH rfl rfl rfl (fun X => qM rfl) <| wH rfl rfl rfl (fun X => wJ rfl (zS (Cn) (Y7 H p n Cn hn hC.ok))) <| wH rfl rfl rfl (fun X => wS (l := v) rfl hv) <| ParH.nil rfl) ?_
          dsimp only [zQ, List.drop, List.length]
          refine xL (by kernel_rfl) rfl rfl (qx rfl (wc (C) (We W v C hw))) ?_
          rintro t78 _ ⟨C7, hs7, rfl⟩
          refine zm (by kernel_rfl) rfl rfl (wJ rfl (zS (C7) (M1 (Qu W) t78 C7 hs7 hix2 hixl))) ?_
          refine zm (by kernel_rfl) rfl rfl (wz rfl rfl) ?_
          refine qm (by kernel_rfl) (qU rfl rfl) ?_
          refine wI <| qI <| qL rfl (fun hc5 => ?_) (fun hc5 => ?_)
          · exact absurd (by rw [hix]) hc5
          ·
           refine qZ <| qI <| qO <| qP <| qB rfl <| q9 (wD (by rw [hu5]; rfl)) ?_
           refine qB rfl <| qF <| qg <| wV (Γ := {pΓ : (Nat) // (fun (i : Nat) => i ≤ (zh W).length) pΓ}) (fun g => (fun (i : Nat) => [(0, .pointer (some ⟨x, 0, none⟩)), (5, t66), (6, t68), (83, .int .i64 (zh W).length), (84, .int .i64 i)]) g.1) (fun g => (fun (i : Nat) => C5 :: C6 :: StD x p v md nx dn od :: Cn :: C :: G :: F) g.1) (fun g => (fun (i : Nat) => (zh W).length - i) g.1) ⟨0, by dsimp only; exact (by omega)⟩ (qX _) ?_
           rintro ⟨i, hloop⟩
           replace hloop : i ≤ (zh W).length := hloop
           obtain hi := hloop
           show Tr _ _ _ ([(0, .pointer (some ⟨x, 0, none⟩)), (5, t66), (6, t68), (83, .int .i64 (zh W).length), (84, .int .i64 i)]) (C5 :: C6 :: StD x p v md nx dn od :: Cn :: C :: G :: F) _ _
           refine qP <| q9 (wL rfl rfl) <| qF <| qO <| qL rfl (fun hc8 => ?_) (fun hc8 => ?_)
           ·
            refine qZ <| qI <| qO <| qg <| qP <| qB rfl <| qD rfl <| qF <| qO ?_
            obtain ⟨k, hk⟩ : ∃ k, (zh W)[i]? = some k := ⟨_, List.getElem?_eq_getElem (by omega)⟩
            rcases hs5 with ⟨-, h0, -⟩ | ⟨bI, capI, spI, rfl, hcsI, rfl, hcapI, hncI⟩
            · omega
            rcases hs6 with ⟨-, h0, -⟩ | ⟨bP, capP, spP, rfl, hcsP, rfl, hcapP, hncP⟩
            · omega
            refine wQ w8 <| wE [(87, .pure _), (88, .pure _), (89, .pure _), (90, .pure _), (91, .pure _), (92, .pure _), (93, .pure _), (94, .pure _), (95, .pure _), (96, .pure _)] (by kernel_rfl) rfl rfl rfl wd (qC rfl (fun X => qM rfl) <| qC rfl (fun X => qM rfl) <| qC rfl (fun X => qw (j := i) (off := i * 4) rfl rfl rfl (by omega) (by simp)) <| qC rfl (fun X => zC (enc := Qg W.num W.ver) (j := i) (fun _ => rfl) rfl hk rfl) <| qC rfl (fun X => qM rfl) <| qC rfl (fun X => qM rfl) <| qC rfl (fun X => qM rfl) <| qC rfl (fun X => qw (j := i) (off := i * 2) rfl rfl rfl (by omega) (by simp)) <| qC rfl (fun X => zC (j := i) y4 rfl hk rfl) <| qC rfl (fun X => wJ rfl (zS (StD x p v md nx dn od) (YZ x p md v nx dn od W C hw k))) <| ParH.nil rfl) ?_
            dsimp only [zQ, List.drop, List.length]
            refine qm (by kernel_rfl) (KE rfl rfl) ?_
            refine wI <| qI <| qL rfl (fun hc10 => ?_) (fun hc10 => ?_)
            · exact absurd rfl hc10
            ·
             refine qZ <| qf <| qI <| qK <| q9 (w9 rfl rfl (by omega)) <| qB rfl <| qT <| w5 ⟨i + 1, ?_⟩ ?_ ?_
             · (try dsimp only); omega
             · (try dsimp only); omega
             · (try dsimp only); exact qX _
           ·
            refine wb <| qr <| qt <| qj <| qI <| qP <| qD rfl <| qF <| qz <| wF (StD x p v md nx dn od :: Cn :: C :: G :: F) (.inl rfl) rfl (qu rfl) ?_
            exact ⟨rfl, rfl⟩
end
section
variable {w0 : World} {L F : Res} {ba bl : Nat}
def VL (e : Int) : Prop := e = 20 ∨ e = 1 ∨ e = 12
theorem cutE_told {a m : Int} (h : kr a m ≠ 0) : VL (kr a m) := by
  unfold VL kr at *
  split at h
  · rename_i h1; rw [if_pos h1]; exact .inr (.inl rfl)
  · rename_i h1
    rw [if_neg h1]
    split at h
    · rename_i h2; rw [if_pos h2]; exact .inr (.inr rfl)
    · exact absurd rfl h
theorem write_fails (n : NS) (g : Int → Option Sec) (a : Int) (bs : List Int) (h : (kv n g a bs).1 ≠ 0) : (kv n g a bs).2 = n ∧ VL (kv n g a bs).1 := by
  unfold kv at *
  split
  · rename_i h1
    rw [if_pos h1] at h
    exact ⟨rfl, cutE_told h⟩
  · rename_i h1
    rw [if_neg h1] at h
    split
    · rename_i f hf
      rw [hf] at h; exact absurd rfl h
    · exact ⟨rfl, .inl rfl⟩
theorem trunc_fails (n : NS) (g : Int → Option Sec) (s : Int) (h : (kA n g s).1 ≠ 0) : (kA n g s).2 = n ∧ VL (kA n g s).1 := by
  unfold kA at *
  split
  · exact ⟨rfl, .inr (.inl rfl)⟩
  · rename_i h1
    rw [if_neg h1] at h
    split
    · exact ⟨rfl, .inr (.inr rfl)⟩
    · rename_i h2
      rw [if_neg h2] at h
      split
      · exact ⟨rfl, .inl rfl⟩
      · rename_i m hm
        rw [hm] at h; exact absurd rfl h
theorem move_fails (n : NS) (k : Int × Int) (a : Int) (g : Int → Option Sec) (h : (jV n k a g).1.2 ≠ 0) : (jV n k a g).2 = n ∧ VL (jV n k a g).1.2 ∧ (jV n k a g).1.1 = false := by
  unfold jV at *
  split
  · rename_i h1
    rw [if_pos h1] at h
    split
    · rename_i h2
      rw [if_pos h2] at h
      split
      · exact ⟨rfl, .inl rfl, rfl⟩
      · rename_i s hs
        rw [hs] at h; exact absurd rfl h
    · rename_i h2
      rw [if_neg h2] at h; exact absurd rfl h
  · rename_i h1
    rw [if_neg h1] at h; exact absurd rfl h
theorem read_any_ok (p : Nat) (n : NS) (Cn Dc : qV) (hn : NodeC p n Cn) (a m : Int) (rv : Value) (g : Int → Option Sec) (hr : KC rv Dc g) (hsz : 0 ≤ n.size ∧ n.size ≤ 136192) (ha : a ≤ 9223372036854775807) (hm : m ≤ 9223372036854775807) :
    FnT Tryz.prog w0 9 #[.pointer (some ⟨p, 0, none⟩), .int .i64 a, .int .i64 m, rv] (Cn :: Dc :: F) (fun v L' => ∃ q k c e C2, v = .tuple #[.slice q k c, .int .i64 e] ∧ (e ≠ 0 → k = 0 ∧ VL e) ∧ L' = C2 :: Cn :: Dc :: F) := by
  by_cases hb : a < 0 ∨ m < 0
  · exact ((Ys p a m rv hb).post fun v L' ⟨h1, h2⟩ => ⟨_, ⟨none, 0, 0, 1, [], h1, fun _ => ⟨rfl, .inr (.inl rfl)⟩, rfl⟩, by rw [h2]; exact we (by simp)⟩)
  · refine (Zn p n Cn Dc hn a m rv g hr hsz ⟨by omega, ha⟩ ⟨by omega, hm⟩).mono fun v L' ⟨u2, C2, h1, h2⟩ => ?_
    split at h2
    · obtain ⟨h2, h3⟩ := h2
      obtain ⟨q, c, hu⟩ := h3.slice
      exact ⟨q, _, c, 0, C2, by rw [h2, hu], fun h => absurd rfl h, h1⟩
    · exact ⟨none, 0, 0, 20, C2, h2.1, fun _ => ⟨rfl, .inl rfl⟩, h1⟩
theorem fails_ok (H : jJ w0) (HP : xo) (HV : JG w0) (G I : qV) (hg : kn G) (qa : Option Addr) (ca : Nat) (acts : List Z1) (hacts : Xd [G, I] qa ca acts) (a : Z1) (ha : X4 [G, I] a) (hlen : (acts.length : Int) ≤ 9223372036854775807) :
    FnT Tryz.prog w0 5 #[.slice qa acts.length ca, .agg (Ym a).toArray] (G :: I :: F) (fun r L' => r = .bool true ∧ L' = G :: I :: F) := by
  rw [show Ym a = [.int .i64 a.kind, .int .i64 a.at_, .int .i64 a.n, .slice a.q a.bs.length a.c] from rfl]
  have hat := ha.at_
  have hnn := ha.n
  refine qh (E0 := [(0, _), (1, _)]) (N := 190) Tryz.func5 rfl rfl rfl rfl ?_
  refine qP <| qG (wq rfl) ?_
  rintro t3 _ ⟨b3, rfl, rfl⟩
  refine qD rfl <| qF <| qO <| qP <| q9 (wJ rfl (zS (G) (awake_ok H HP G hg))) <| q9 (kN rfl) <| qF <| wU rfl <| qZ <| qI <| qP <| qG (qx rfl (wc (G) (VF G hg))) ?_
  rintro t19 _ ⟨x, p, md, ba, bl, v, C, Cn, od, rfl, hn, hw, hD, rfl⟩
  refine qB rfl <| q9 (qi rfl rfl) <| q9 (qi rfl rfl) <| qD rfl <| qD rfl <| qF <| qO <| qP <| qB rfl <| q9 (kN rfl) <| qF <| wU rfl <| qZ <| qI <| qO <| qP <| qD rfl <| qF <| qg <| wV (Γ := {pΓ : (Nat) × (Nat) × (Nat) × (Nat) × (Nat) × (List Value) × (Int) × (Obj) × (NS) × (RS) × (Int → Option Sec) × (qV) × (qV) // (fun (i : Nat) (p : Nat) (md : Nat) (ba : Nat) (bl : Nat) (v : List Value) (nx : Int) (od : Obj) (n : NS) (W : RS) (D : Int → Option Sec) (Cn : qV) (C : qV) => i ≤ acts.length ∧ i ≤ 20 ∧ StP nx n W D i ∧ NodeC p n Cn ∧ RefC ba bl W v C ∧ MapF (Value.int .i64) jH D od) pΓ.1 pΓ.2.1 pΓ.2.2.1 pΓ.2.2.2.1 pΓ.2.2.2.2.1 pΓ.2.2.2.2.2.1 pΓ.2.2.2.2.2.2.1 pΓ.2.2.2.2.2.2.2.1 pΓ.2.2.2.2.2.2.2.2.1 pΓ.2.2.2.2.2.2.2.2.2.1 pΓ.2.2.2.2.2.2.2.2.2.2.1 pΓ.2.2.2.2.2.2.2.2.2.2.2.1 pΓ.2.2.2.2.2.2.2.2.2.2.2.2}) (fun g => (fun (i : Nat) (p : Nat) (md : Nat) (ba : Nat) (bl : Nat) (v : List Value) (nx : Int) (od : Obj) (n : NS) (W : RS) (D : Int → Option Sec) (Cn : qV) (C : qV) => [(0, .slice qa acts.length ca), (3, .pointer (some ⟨b3, 0, none⟩)), (5, .pointer (some ⟨x, 0, none⟩)), (7, .int .i64 i)]) g.1.1 g.1.2.1 g.1.2.2.1 g.1.2.2.2.1 g.1.2.2.2.2.1 g.1.2.2.2.2.2.1 g.1.2.2.2.2.2.2.1 g.1.2.2.2.2.2.2.2.1 g.1.2.2.2.2.2.2.2.2.1 g.1.2.2.2.2.2.2.2.2.2.1 g.1.2.2.2.2.2.2.2.2.2.2.1 g.1.2.2.2.2.2.2.2.2.2.2.2.1 g.1.2.2.2.2.2.2.2.2.2.2.2.2) (fun g => (fun (i : Nat) (p : Nat) (md : Nat) (ba : Nat) (bl : Nat) (v : List Value) (nx : Int) (od : Obj) (n : NS) (W : RS) (D : Int → Option Sec) (Cn : qV) (C : qV) => StD x p v md nx false od :: Cn :: C :: [(b3, .cells [.int .i64 a.kind, .int .i64 a.at_, .int .i64 a.n, .slice a.q a.bs.length a.c].toArray 25 (0, 0))] :: G :: I :: F) g.1.1 g.1.2.1 g.1.2.2.1 g.1.2.2.2.1 g.1.2.2.2.2.1 g.1.2.2.2.2.2.1 g.1.2.2.2.2.2.2.1 g.1.2.2.2.2.2.2.2.1 g.1.2.2.2.2.2.2.2.2.1 g.1.2.2.2.2.2.2.2.2.2.1 g.1.2.2.2.2.2.2.2.2.2.2.1 g.1.2.2.2.2.2.2.2.2.2.2.2.1 g.1.2.2.2.2.2.2.2.2.2.2.2.2) (fun g => (fun (i : Nat) (p : Nat) (md : Nat) (ba : Nat) (bl : Nat) (v : List Value) (nx : Int) (od : Obj) (n : NS) (W : RS) (D : Int → Option Sec) (Cn : qV) (C : qV) => acts.length - i) g.1.1 g.1.2.1 g.1.2.2.1 g.1.2.2.2.1 g.1.2.2.2.2.1 g.1.2.2.2.2.2.1 g.1.2.2.2.2.2.2.1 g.1.2.2.2.2.2.2.2.1 g.1.2.2.2.2.2.2.2.2.1 g.1.2.2.2.2.2.2.2.2.2.1 g.1.2.2.2.2.2.2.2.2.2.2.1 g.1.2.2.2.2.2.2.2.2.2.2.2.1 g.1.2.2.2.2.2.2.2.2.2.2.2.2) ⟨(0, p, md, ba, bl, v, 100, od, Zv 3 7 1, Wj 3 7 1, (fun _ => none), Cn, C), by dsimp only; exact ⟨by omega, by omega, ⟨Kw.1, Kw.2, by omega⟩, hn, hw, hD⟩⟩ (qX _) ?_
  rintro ⟨⟨i, p, md, ba, bl, v, nx, od, n, W, D, Cn, C⟩, hloop⟩
  replace hloop : i ≤ acts.length ∧ i ≤ 20 ∧ StP nx n W D i ∧ NodeC p n Cn ∧ RefC ba bl W v C ∧ MapF (Value.int .i64) jH D od := hloop
  obtain ⟨hi, hi20, hP, hn, hw, hD⟩ := hloop
  show Tr _ _ _ ([(0, .slice qa acts.length ca), (3, .pointer (some ⟨b3, 0, none⟩)), (5, .pointer (some ⟨x, 0, none⟩)), (7, .int .i64 i)]) (StD x p v md nx false od :: Cn :: C :: [(b3, .cells [.int .i64 a.kind, .int .i64 a.at_, .int .i64 a.n, .slice a.q a.bs.length a.c].toArray 25 (0, 0))] :: G :: I :: F) _ _
  refine qO <| zb (Γ := {pΓ : (Bool) // (fun (b : Bool) => b = true ↔ (i < acts.length ∧ i < 20)) pΓ}) (fun g => (fun (b : Bool) => [(0, .slice qa acts.length ca), (3, .pointer (some ⟨b3, 0, none⟩)), (5, .pointer (some ⟨x, 0, none⟩)), (7, .int .i64 i), (31, .bool b)]) g.1) (fun g => (fun (b : Bool) => StD x p v md nx false od :: Cn :: C :: [(b3, .cells [.int .i64 a.kind, .int .i64 a.at_, .int .i64 a.n, .slice a.q a.bs.length a.c].toArray 25 (0, 0))] :: G :: I :: F) g.1) ?_ ?_
  ·
   refine qK <| qB rfl <| qB rfl <| q9 (wD rfl) <| q9 (wL rfl rfl) <| qB rfl <| qY (s := 28) rfl (fun hg7_4 => ?_) (fun hg7_4 => ?_)
   ·
    refine qE rfl rfl (qM rfl) <| qE rfl rfl (wL rfl rfl) <| q9 (qk rfl rfl) <| qT <| qW ⟨_, ?_⟩ ?_
    · (try dsimp only); first | exact ⟨fun h => ⟨by omega, by have := of_decide_eq_true h; omega⟩, fun h => decide_eq_true (by omega)⟩ | exact ⟨fun h => (by cases h), fun h => (by omega)⟩
    · (try dsimp only); exact qX _
   ·
    refine qN rfl rfl rfl <| qN rfl rfl rfl <| q9 (qU rfl rfl) <| qT <| qW ⟨_, ?_⟩ ?_
    · (try dsimp only); first | exact ⟨fun h => ⟨by omega, by have := of_decide_eq_true h; omega⟩, fun h => decide_eq_true (by omega)⟩ | exact ⟨fun h => (by cases h), fun h => (by omega)⟩
    · (try dsimp only); exact qX _
  rintro ⟨b, hcut⟩
  replace hcut : b = true ↔ (i < acts.length ∧ i < 20) := hcut
  have hb := hcut
  show Tr _ _ _ ([(0, .slice qa acts.length ca), (3, .pointer (some ⟨b3, 0, none⟩)), (5, .pointer (some ⟨x, 0, none⟩)), (7, .int .i64 i), (31, .bool b)]) (StD x p v md nx false od :: Cn :: C :: [(b3, .cells [.int .i64 a.kind, .int .i64 a.at_, .int .i64 a.n, .slice a.q a.bs.length a.c].toArray 25 (0, 0))] :: G :: I :: F) _ _
  refine y3 rfl (fun hc6 => ?_) (fun hc6 => ?_)
  ·
   refine qZ <| qI <| qO <| qg <| qO ?_
   have hbb := hb.1 hc6
   obtain ⟨ac, hac⟩ : ∃ ac, acts[i]? = some ac := ⟨_, List.getElem?_eq_getElem (by omega)⟩
   have hao := hacts.ok ac (List.mem_of_getElem? hac)
   obtain ⟨bq, oq, cq, eq, fq, hqa, hmem, hcell, hsize⟩ := act_at w0 hacts hac
   refine qK <| qB rfl <| qB rfl <| qB rfl <| q9 (qw (j := i) (off := oq + i * 4) (by rw [hqa]; rfl) rfl rfl (by omega) rfl) ?_
   refine q9 (kC rfl ((in2 (fun z hz => by simp [hz]) (fun z hz => by simp [hz])) _ hmem) hcell hsize) ?_
   refine qG (qx rfl (FnT.fr5 (StD x p v md nx false od) (Cn) (C) (G) (I) (ldo_ok H HP x p md v nx false rfl od n W D Cn C G I i ac hn hw hD hg hP (by omega) hao))) ?_
   rintro t39 _ ⟨rfl, p', md', v', nx', od', n', W', D', Cn', C', ba', bl', hP', hn', hw', hD', rfl⟩
   refine q9 (kN rfl) <| qF <| wU rfl <| qZ <| qf <| qI <| qK <| qB rfl <| q9 (w9 rfl rfl (by omega)) <| qD rfl <| qT <| w5 ⟨(i + 1, p', md', ba', bl', v', nx', od', n', W', D', Cn', C'), ?_⟩ ?_ ?_
   · (try dsimp only); exact ⟨by omega, by omega, hP', hn', hw', hD'⟩
   · (try dsimp only); omega
   · (try dsimp only); exact qX _
  ·
   refine wb <| qr <| qt <| qj <| qI <| qO <| qO ?_
   have hI := hP.inv
   have hnxb := hP.nxb
   have hgl := hP.gone (by omega)
   have hll := x5 W
   have hr : ∀ z ∈ jX nx (zh W).length, 1 ≤ z ∧ z ≤ 65535 := Jt hI.nx (by omega)
   obtain ⟨hcc1, hcc2, hcc3, hcc4⟩ := J6 hP.cpl hI rfl rfl (by omega) hr
   obtain ⟨hI1, hnp, -, hgo, -⟩ := J5 hI rfl rfl
   refine qK <| qB rfl <| qG (qx rfl (Q4 (StD x p v md nx false od) (Cn) (C) (G) (Kr H HP x p md v nx false od n W D Cn C G (zh W) (jX nx (zh W).length) rfl rfl hn hw hD hg hP.cpl.ok hP.fl (hP.cpl.parts hI.has) hP.cpl.num hP.cpl.ver hI.nx (by omega) (by omega) (by omega) hr hcc2 (hcc4 hP.cpl.ok hP.fl) hcc3))) ?_
   rintro t42 _ ⟨rfl, v', C', Cn', od', hn', hw', hD', rfl⟩
   obtain ⟨n1, hn1⟩ : ∃ n1, Q3 n (jX nx (zh W).length) = n1 := ⟨_, rfl⟩
   obtain ⟨W1, hW1⟩ : ∃ W1, zE W (jX nx (zh W).length) = W1 := ⟨_, rfl⟩
   obtain ⟨D1, hD1⟩ : ∃ D1, QW (xq (zB (yu W (jX nx (zh W).length))) D ((zh W).zip (jX nx (zh W).length))) (srt (xh W (jX nx (zh W).length))) = D1 := ⟨_, rfl⟩
   obtain ⟨nx1, hnx1⟩ : ∃ nx1, nx + ((zh W).length : Int) = nx1 := ⟨_, rfl⟩
   rw [hn1, hW1] at hcc1
   rw [hW1, hD1, hnx1] at hI1
   rw [hW1] at hnp hgo
   rw [hn1] at hn'
   rw [hW1] at hw'
   rw [hD1] at hD'
   rw [hnx1]
   have hg1 : n1.gone = [] := by have := hcc1.gone; rw [hgo] at this; exact List.perm_nil.1 this
   have hpp1 : yE n1 = [] := (hcc1.parts hI1.has).trans (List.eq_nil_iff_forall_not_mem.2 fun k hk => hnp k ((QD W1 k).1 hk).1 ((QD W1 k).1 hk).2)
   have hv1 := hw'.len
   have hix : jI n1 = Qu W1 := Vv hcc1 hI1
   have hixl : (Qu W1).length ≤ 1064 := by unfold Qu; refine Nat.le_trans (List.length_filter_le _ _) ?_; simp
   have hsz := hI1.size
   have hsn : n1.size = W1.size := hcc1.size
   refine q9 (kN rfl) <| qF <| wU rfl <| qZ <| qI <| qP <| qB rfl <| q9 (qQ rfl) <| q9 (qA rfl) <| qS (yA rfl rfl (by rw [ja hv1]; decide) rfl) ?_
   refine qT ?_
   rw [stV_sd hv1]
   have hrd := Qb x p md v' nx1 true od' D1 hv1 hD'
   obtain ⟨g, hgg⟩ : ∃ g, gS true D1 = g := ⟨_, rfl⟩
   rw [hgg] at hrd
   refine qI <| qP <| q9 (qA rfl) <| q9 (qH rfl rfl) <| qD rfl <| qF <| zb (Γ := {pΓ : (Option Addr) × (Nat) × (List Int) // (fun (q : Option Addr) (c : Nat) (bs : List Int) => IsB bs ∧ bs.length ≤ 700 ∧ bs.length ≤ c ∧ (q = none → bs.length = 0) ∧ (∀ w0, Reads w0 [G, I] (.slice q bs.length c) bs.length 1 (u8s bs))) pΓ.1 pΓ.2.1 pΓ.2.2}) (fun g => (fun (q : Option Addr) (c : Nat) (bs : List Int) => [(3, .pointer (some ⟨b3, 0, none⟩)), (5, .pointer (some ⟨x, 0, none⟩)), (8, .slice q bs.length c)]) g.1.1 g.1.2.1 g.1.2.2) (fun g => (fun (q : Option Addr) (c : Nat) (bs : List Int) => StD x p v' md nx1 true od' :: Cn' :: C' :: [(b3, .cells [.int .i64 a.kind, .int .i64 a.at_, .int .i64 a.n, .slice a.q a.bs.length a.c].toArray 25 (0, 0))] :: G :: I :: F) g.1.1 g.1.2.1 g.1.2.2) ?_ ?_
   ·
    refine qP <| qB rfl <| q9 (wD rfl) <| q9 (y9 rfl rfl) <| qF <| qL rfl (fun hc15 => ?_) (fun hc15 => ?_)
    ·
     refine qK <| qB rfl <| q9 (kf (kl := .i64) (kh := .i64) (l := 0) (h := 700) rfl rfl rfl (by omega) (by have := ha.len; omega) ha.len) ?_
     refine qD rfl <| qT ?_
     rw [show (700 - 0 : Nat) = (a.bs.take 700).length from by rw [List.length_take]; omega]
     refine qW ⟨(if a.c = 0 then a.q else a.q.map (·.add (0 * 1)), a.c - 0, a.bs.take 700), ?_⟩ ?_
     ·
      try dsimp only
      refine ⟨Ks ha.bs 700, by rw [List.length_take]; omega, by have := ha.len; rw [List.length_take]; omega, fun e => ?_, fun w0 => ?_⟩
      · exfalso; have hqq := ha.q; split at e
        · have := hqq e; omega
        · cases hq : a.q with
          | none => have := hqq hq; omega
          | some z => rw [hq] at e; cases e
      · have h7 : (a.bs.take 700).length = 700 := by rw [List.length_take]; omega
        rw [h7, ← x9]; exact (ha.reads w0).cutTo (t := 700) (by omega) (by omega)
     · (try dsimp only); exact qX _
    ·
     refine qZ <| qW ⟨(a.q, a.c, a.bs), ?_⟩ ?_
     · (try dsimp only); exact ⟨ha.bs, by omega, ha.len, ha.q, ha.reads⟩
     · (try dsimp only); exact qX _
   rintro ⟨⟨q, c, bs⟩, hcut⟩
   replace hcut : IsB bs ∧ bs.length ≤ 700 ∧ bs.length ≤ c ∧ (q = none → bs.length = 0) ∧ (∀ w0, Reads w0 [G, I] (.slice q bs.length c) bs.length 1 (u8s bs)) := hcut
   obtain ⟨hbs, hb7, hbc, hbq, hbr⟩ := hcut
   show Tr _ _ _ ([(3, .pointer (some ⟨b3, 0, none⟩)), (5, .pointer (some ⟨x, 0, none⟩)), (8, .slice q bs.length c)]) (StD x p v' md nx1 true od' :: Cn' :: C' :: [(b3, .cells [.int .i64 a.kind, .int .i64 a.at_, .int .i64 a.n, .slice a.q a.bs.length a.c].toArray 25 (0, 0))] :: G :: I :: F) _ _
   refine qP <| qB rfl <| q9 (qQ rfl) <| q9 (qA rfl) <| q9 (qH rfl jL) <| qG (qx rfl (wc (Cn') (clone_ok p n1 Cn' hn' (by rw [hg1]; simp)))) ?_
   rintro t58 _ ⟨y, Cq, rfl, hny, rfl⟩
   refine qD rfl <| qo <| qD rfl <| qF <| zb (Γ := {pΓ : (Int) × (NS) × (qV) // (fun (e : Int) (n2 : NS) (Cn2 : qV) => (e ≠ 0 → n2 = n1 ∧ VL e) ∧ NodeC p n2 Cn2) pΓ.1 pΓ.2.1 pΓ.2.2}) (fun g => (fun (e : Int) (n2 : NS) (Cn2 : qV) => [(5, .pointer (some ⟨x, 0, none⟩)), (9, .pointer (some ⟨y, 0, none⟩)), (10, .int .i64 e)]) g.1.1 g.1.2.1 g.1.2.2) (fun g => (fun (e : Int) (n2 : NS) (Cn2 : qV) => StD x p v' md nx1 true od' :: Cn2 :: Cq :: C' :: G :: I :: F) g.1.1 g.1.2.1 g.1.2.2) ?_ ?_
   ·
    refine qP <| q9 (qA rfl) <| q9 (qH rfl rfl) <| q9 (xm rfl rfl) <| qF <| qg <| qP <| q9 (wl rfl rfl) <| qD rfl <| qF <| qL rfl (fun hc24 => ?_) (fun hc24 => ?_)
    ·
     refine wQ w8 <| wE [(93, .pure _), (94, .pure _), (95, .pure _), (96, .pure _), (97, .pure _), (98, .pure _), (99, .pure _), (100, .pure _), (101, .pure _)] (by kernel_rfl) rfl rfl rfl wd (qC rfl (fun X => qM rfl) <| qC rfl (fun X => qQ rfl) <| qC rfl (fun X => qA rfl) <| qC rfl (fun X => qH rfl jL) <| qC rfl (fun X => qA rfl) <| qC rfl (fun X => qH rfl rfl) <| qC rfl (fun X => qM rfl) <| qC rfl (fun X => qM rfl) <| qC rfl (fun X => wx rfl rfl) <| ParH.nil rfl) ?_
     dsimp only [zQ, List.drop, List.length]
     refine wu (by kernel_rfl) (qx rfl (k0 (Cn') (StD x p v' md nx1 true od') (Qa p n1 Cn' (StD x p v' md nx1 true od') hn' a.at_ q c bs _ g hrd (by omega) hat hbs (by omega) hbc hbq (fun A => (hbr w0).mono (in2 (fun z hz => by simp [hz]) (fun z hz => by simp [hz])))))) ?_
     rintro t102 _ ⟨Cn2, rfl, hn2, rfl⟩
     refine qm (by kernel_rfl) (z8 rfl) ?_
     refine wI <| qf <| qW ⟨((kv n1 g a.at_ bs).1, (kv n1 g a.at_ bs).2, Cn2), ?_⟩ ?_
     · (try dsimp only); exact ⟨write_fails _ _ _ _, hn2⟩
     · (try dsimp only); exact qX _
    ·
     refine qP <| q9 (wl rfl rfl) <| qD rfl <| qF <| qL rfl (fun hc26 => ?_) (fun hc26 => ?_)
     ·
      refine wQ w8 <| wE [(105, .pure _), (106, .pure _), (107, .pure _), (108, .pure _), (109, .pure _), (110, .pure _), (111, .pure _), (112, .pure _)] (by kernel_rfl) rfl rfl rfl wd (qC rfl (fun X => qM rfl) <| qC rfl (fun X => qQ rfl) <| qC rfl (fun X => qA rfl) <| qC rfl (fun X => qH rfl jL) <| qC rfl (fun X => qA rfl) <| qC rfl (fun X => qH rfl rfl) <| qC rfl (fun X => qM rfl) <| qC rfl (fun X => wx rfl rfl) <| ParH.nil rfl) ?_
      dsimp only [zQ, List.drop, List.length]
      refine wu (by kernel_rfl) (qx rfl (ku (Cn') (StD x p v' md nx1 true od') (G) (Yp H p n1 Cn' (StD x p v' md nx1 true od') G hn' hg hcc1.ok a.n _ g hrd hnn (by rw [hg1]; simp)))) ?_
      rintro t113 _ ⟨Cn2, rfl, hn2, rfl⟩
      refine qm (by kernel_rfl) (z8 rfl) ?_
      refine wI <| qf <| qW ⟨((kA n1 g a.n).1, (kA n1 g a.n).2, Cn2), ?_⟩ ?_
      · (try dsimp only); exact ⟨trunc_fails _ _ _, hn2⟩
      · (try dsimp only); exact qX _
     ·
      refine qP <| q9 (wl rfl rfl) <| qD rfl <| qF <| qL rfl (fun hc28 => ?_) (fun hc28 => ?_)
      ·
       refine qO <| wQ w8 <| wE [(117, .pure _), (118, .pure _), (119, .pure _), (120, .pure _), (121, .pure _), (122, .pure _), (123, .pure _), (124, .pure _), (125, .pure _), (126, .pure _), (127, .pure _)] (by kernel_rfl) rfl rfl rfl wd (qC rfl (fun X => qM rfl) <| qC rfl (fun X => qQ rfl) <| qC rfl (fun X => qA rfl) <| qC rfl (fun X => qH rfl jL) <| qC rfl (fun X => qA rfl) <| qC rfl (fun X => qH rfl rfl) <| qC rfl (fun X => qA rfl) <| qC rfl (fun X => qH rfl rfl) <| qC rfl (fun X => YV rfl rfl) <| qC rfl (fun X => qM rfl) <| qC rfl (fun X => wx rfl rfl) <| ParH.nil rfl) ?_
       dsimp only [zQ, List.drop, List.length]
       refine wu (by kernel_rfl) (qx rfl (k0 (Cn') (StD x p v' md nx1 true od') (read_any_ok p n1 Cn' (StD x p v' md nx1 true od') hn' a.at_ (min a.n 3000) _ g hrd (by omega) (by omega) (by omega)))) ?_
       rintro t128 _ ⟨q2, k2, c2, e2, C2, rfl, he2, rfl⟩
       refine qm (by kernel_rfl) (qM rfl) ?_
       refine wE [(129, .pure _), (130, .pure _), (11, .pure _)] (by kernel_rfl) rfl rfl rfl wd (qC rfl (fun X => qi rfl rfl) <| qC rfl (fun X => qi rfl rfl) <| qC rfl (fun X => z8 rfl) <| ParH.nil rfl) ?_
       dsimp only [zQ, List.drop, List.length]
       refine qm (by kernel_rfl) (z8 rfl) ?_
       refine wI <| qI <| qP <| qB rfl <| qD rfl <| qo <| qB rfl <| q9 (wz rfl rfl) <| qB rfl <| qY (s := 134) rfl (fun hg31_2 => ?_) (fun hg31_2 => ?_)
       ·
        refine qE rfl rfl (qM rfl) <| qE rfl rfl (wD rfl) <| qE rfl rfl (wz rfl rfl) <| q9 (qk rfl rfl) <| qF <| qL rfl (fun hc31 => ?_) (fun hc31 => ?_)
        · exact absurd (congrArg Int.ofNat (he2 hg31_2).1) hc31
        ·
         refine qZ <| qf <| qW ⟨(e2, n1, Cn'), ?_⟩ ?_
         · (try dsimp only); exact ⟨fun h => ⟨rfl, (he2 h).2⟩, hn'⟩
         · (try dsimp only); exact qX _
       ·
        refine qN rfl rfl rfl <| qN rfl rfl rfl <| qN rfl rfl rfl <| q9 (qU rfl rfl) <| qF <| wU rfl <| qZ <| qf <| qW ⟨(e2, n1, Cn'), ?_⟩ ?_
        · (try dsimp only); exact ⟨fun h => ⟨rfl, (he2 h).2⟩, hn'⟩
        · (try dsimp only); exact qX _
      ·
       refine qO ?_
       have hmk := Wv a.at_ (M := 63) (by omega) (by omega)
       have hkp : wC (1, zH .and .i64 a.at_ 63) := .inl ⟨rfl, by omega, by omega⟩
       have hmv := fun (F : Res) => Vq (w0 := w0) (F := F) H HP p n1 Cn' (StD x p v' md nx1 true od') G hn' hg hcc1.ok (1, zH .and .i64 a.at_ 63) (qy W1 (1, zH .and .i64 a.at_ 63)) _ g hrd
       rw [hcc1.num, hcc1.ver, hI1.num, hI1.ver] at hmv
       refine wQ w8 <| wE [(63, .pure _), (64, .pure _), (65, .pure _), (66, .pure _), (67, .pure _), (68, .pure _), (69, .pure _), (70, .pure _), (71, .pure _), (72, .pure _), (73, .pure _), (74, .pure _), (75, .pure _), (76, .pure _), (77, .pure _), (78, .pure _), (79, .pure _), (80, .pure _), (81, .pure _)] (by kernel_rfl) rfl rfl rfl wd (qC rfl (fun X => qM rfl) <| qC rfl (fun X => qQ rfl) <| qC rfl (fun X => qA rfl) <| qC rfl (fun X => qH rfl jL) <| qC rfl (fun X => qA rfl) <| qC rfl (fun X => qH rfl rfl) <| qC rfl (fun X => xm rfl rfl) <| qC rfl (fun X => wa rfl) <| qC rfl (fun X => qM rfl) <| qC rfl (fun X => qQ rfl) <| qC rfl (fun X => qA rfl) <| qC rfl (fun X => zZ (r := v') rfl (kT hv1) hv1) <| qC rfl (fun X => qA rfl) <| qC rfl (fun X => qH rfl rfl) <| qC rfl (fun X => xm rfl rfl) <| qC rfl (fun X => wa rfl) <| qC rfl (fun X => wJ rfl (zS (C') (YR W1 v' C' hw' (1, zH .and .i64 a.at_ 63) hkp))) <| qC rfl (fun X => qM rfl) <| qC rfl (fun X => wx rfl rfl) <| ParH.nil rfl) ?_
       dsimp only [zQ, List.drop, List.length]
       refine wu (by kernel_rfl) (qx rfl (ku (Cn') (StD x p v' md nx1 true od') (G) (hmv _))) ?_
       rintro t82 _ ⟨Cn2, rfl, hn2, rfl⟩
       refine qm (by kernel_rfl) (qM rfl) ?_
       refine wE [(83, .pure _), (84, .pure _), (13, .pure _)] (by kernel_rfl) rfl rfl rfl wd (qC rfl (fun X => qi rfl rfl) <| qC rfl (fun X => qi rfl rfl) <| qC rfl (fun X => z8 rfl) <| ParH.nil rfl) ?_
       dsimp only [zQ, List.drop, List.length]
       refine qm (by kernel_rfl) (z8 rfl) ?_
       refine wI <| qI <| qP <| qB rfl <| qD rfl <| qF <| qO ?_
       have hmf := move_fails n1 (1, zH .and .i64 a.at_ 63) (qy W1 (1, zH .and .i64 a.at_ 63)) g
       refine qK <| qB rfl <| q9 (wz rfl rfl) <| qB rfl <| qY (s := 88) rfl (fun hg22_2 => ?_) (fun hg22_2 => ?_)
       ·
        refine qE rfl rfl (qM rfl) <| q9 (qk rfl rfl) <| qF <| y3 rfl (fun hc22 => ?_) (fun hc22 => ?_)
        · first | cases hc22 | (rw [(hmf hg22_2).2.2] at hc22; cases hc22)
        ·
         refine qZ <| qf <| qW ⟨((jV n1 (1, zH .and .i64 a.at_ 63) (qy W1 (1, zH .and .i64 a.at_ 63)) g).1.2, (jV n1 (1, zH .and .i64 a.at_ 63) (qy W1 (1, zH .and .i64 a.at_ 63)) g).2, Cn2), ?_⟩ ?_
         · (try dsimp only); exact ⟨fun h => ⟨(hmf h).1, (hmf h).2.1⟩, hn2⟩
         · (try dsimp only); exact qX _
       ·
        refine qN rfl rfl rfl <| q9 (qU rfl rfl) <| qF <| wU rfl <| qZ <| qf <| qW ⟨((jV n1 (1, zH .and .i64 a.at_ 63) (qy W1 (1, zH .and .i64 a.at_ 63)) g).1.2, (jV n1 (1, zH .and .i64 a.at_ 63) (qy W1 (1, zH .and .i64 a.at_ 63)) g).2, Cn2), ?_⟩ ?_
        · (try dsimp only); exact ⟨fun h => ⟨(hmf h).1, (hmf h).2.1⟩, hn2⟩
        · (try dsimp only); exact qX _
   rintro ⟨⟨e, n2, Cn2⟩, hcut⟩
   replace hcut : (e ≠ 0 → n2 = n1 ∧ VL e) ∧ NodeC p n2 Cn2 := hcut
   obtain ⟨he, hn2⟩ := hcut
   show Tr _ _ _ ([(5, .pointer (some ⟨x, 0, none⟩)), (9, .pointer (some ⟨y, 0, none⟩)), (10, .int .i64 e)]) (StD x p v' md nx1 true od' :: Cn2 :: Cq :: C' :: G :: I :: F) _ _
   refine qO <| qP <| qB rfl <| q9 (wl rfl rfl) <| qF <| qL rfl (fun hc33 => ?_) (fun hc33 => ?_)
   ·
    refine qP <| qD rfl <| qF <| qz <| w7 <| wF (G :: I :: F) (.inl rfl) rfl (qu rfl) ?_
    exact ⟨rfl, rfl⟩
   ·
    refine qZ <| qI <| qO ?_
    obtain ⟨rfl, het⟩ := he hc33
    refine qK <| qB rfl <| qB rfl <| qB rfl <| q9 (qQ rfl) <| q9 (qA rfl) <| q9 (qH rfl jL) <| q9 (qQ rfl) <| q9 (qA rfl) <| qS (yA rfl rfl (by rw [ja hv1]; decide) rfl) ?_
    refine qD rfl <| qT ?_
    rw [MC y]
    refine qI <| qO <| wQ w8 <| qm (by kernel_rfl) (qM rfl) ?_
    refine wu (by kernel_rfl) (qx rfl (k0 (Cn2) (G) (ZW H HP p n2 Cn2 G hn2 hg hcc1.ok))) ?_
    rintro t150 _ ⟨Cp, hp, rfl⟩
    rw [hpp1] at hp
    obtain ⟨qp, kp, hup⟩ := hp.slice
    refine qm (by kernel_rfl) (wD (by rw [hup]; rfl)) ?_
    refine qm (by kernel_rfl) (wl rfl rfl) ?_
    refine qm (by kernel_rfl) (qM rfl) ?_
    refine zi (s := 153) rfl (fun hg36_4 => ?_) (fun hg36_4 => ?_)
    ·
     refine wE [(154, .pure _), (155, .pure _), (156, .pure _), (157, .pure _), (158, .pure _), (159, .pure _), (160, .pure _)] (by kernel_rfl) rfl rfl rfl wd (wH rfl rfl rfl (fun X => qM rfl) <| wH rfl rfl rfl (fun X => wJ rfl (zS (Cn2) (XC p n2 Cn2 hn2))) <| wH rfl rfl rfl (fun X => qM rfl) <| wH rfl rfl rfl (fun X => qQ rfl) <| wH rfl rfl rfl (fun X => qA rfl) <| wH rfl rfl rfl (fun X => w6 rfl) <| wH rfl rfl rfl (fun X => qH rfl (show wX (stV y v' md nx1 true) 4 = some (.int .i64 W1.size) by rw [show 4 = 1 + 3 from rfl, YO hv1 (by omega)]; obtain ⟨ug, Cg, hlv, -, -⟩ := id hw'; rw [hlv]; rfl)) <| ParH.nil rfl) ?_
     dsimp only [zQ, List.drop, List.length]
     refine zm (by kernel_rfl) rfl rfl (wl rfl rfl) ?_
     refine qm (by kernel_rfl) (qk rfl rfl) ?_
     refine qm (by kernel_rfl) (qM rfl) ?_
     refine zi (s := 163) rfl (fun hg36_14 => ?_) (fun hg36_14 => ?_)
     ·
      refine wE [(164, .pure _), (165, .act ([]) (fun v C => SlC 3 1 v (jI n2).length (iV (jI n2)) C)), (166, .pure _), (167, .pure _), (168, .pure _), (169, .pure _)] (by kernel_rfl) rfl rfl rfl (jT [[]] rfl) (wH rfl rfl rfl (fun X => qM rfl) <| ZG rfl rfl rfl (fun X => k8 (qx rfl (W6 Cn2 (xS H p n2 Cn2 hn2 hcc1.ok))) (fun _ _ h => h) kP) <| wH rfl rfl rfl (fun X => qM rfl) <| wH rfl rfl rfl (fun X => qQ rfl) <| wH rfl rfl rfl (fun X => qA rfl) <| wH rfl rfl rfl (fun X => zZ (r := v') rfl (kT hv1) hv1) <| ParH.nil rfl) ?_
      rintro t165 C1 hs1
      dsimp only [zQ, List.drop, List.length]
      refine xL (by kernel_rfl) rfl rfl (qx rfl (wc (C') (We W1 v' C' hw'))) ?_
      rintro t170 _ ⟨C2, hs2, rfl⟩
      refine zm (by kernel_rfl) rfl rfl (wJ rfl (yj (C1) (C2) (KH t165 t170 C1 C2 _ _ hs1 hs2 (by rw [hix]; omega)))) ?_
      refine qm (by kernel_rfl) (qk rfl rfl) ?_
      refine qm (by kernel_rfl) (z8 rfl) ?_
      refine wI <| qI <| qP <| qB rfl <| qB rfl <| y0 (s := 174) rfl (fun hg37_1 => ?_) (fun hg37_1 => ?_)
      ·
       refine qE rfl rfl (qM rfl) <| qE rfl rfl (wJ rfl (FnT.rd4 (StD x y v' md nx1 true od') (Cq) (C') (G) (is_ok H HP HV x y md v' nx1 true od' n2 W1 D1 Cq C' G hny hw' hg hcc1 hI1 (by rw [hg1]; simp) (by rw [hgo]; simp)))) ?_
       refine q9 (qk rfl rfl) <| qB rfl <| y0 (s := 178) rfl (fun hg37_5 => ?_) (fun hg37_5 => ?_)
       ·
        refine qE rfl rfl (qM rfl) <| qE rfl rfl (wl rfl rfl) <| qE rfl rfl (qM rfl) <| qY (s := 181) rfl (fun hg37_8 => ?_) (fun hg37_8 => ?_)
        ·
         refine qN rfl rfl rfl <| qN rfl rfl rfl <| qE rfl rfl (qk rfl rfl) <| qE rfl rfl (qM rfl) <| qN rfl rfl rfl <| qN rfl rfl rfl <| qE rfl rfl (qk rfl rfl) <| q9 (qk rfl rfl) <| qD rfl <| qF <| qz <| wF (G :: I :: F) (.inl rfl) rfl (qu rfl) ?_
         first | exact ⟨rfl, rfl⟩ | exact ⟨congrArg Value.bool (decide_eq_true ((het.resolve_left hg37_8).resolve_left hg37_12)), rfl⟩
        ·
         refine qE rfl rfl (qM rfl) <| qE rfl rfl (wl rfl rfl) <| qE rfl rfl (qU rfl rfl) <| qE rfl rfl (qM rfl) <| qY (s := 185) rfl (fun hg37_12 => ?_) (fun hg37_12 => ?_)
         ·
          refine qN rfl rfl rfl <| qN rfl rfl rfl <| qE rfl rfl (qk rfl rfl) <| q9 (qk rfl rfl) <| qD rfl <| qF <| qz <| wF (G :: I :: F) (.inl rfl) rfl (qu rfl) ?_
          first | exact ⟨rfl, rfl⟩ | exact ⟨congrArg Value.bool (decide_eq_true ((het.resolve_left hg37_8).resolve_left hg37_12)), rfl⟩
         ·
          refine qE rfl rfl (qM rfl) <| qE rfl rfl (wl rfl rfl) <| qE rfl rfl (qU rfl rfl) <| q9 (qk rfl rfl) <| qD rfl <| qF <| qz <| wF (G :: I :: F) (.inl rfl) rfl (qu rfl) ?_
          first | exact ⟨rfl, rfl⟩ | exact ⟨congrArg Value.bool (decide_eq_true ((het.resolve_left hg37_8).resolve_left hg37_12)), rfl⟩
       · cases hg37_5
      · (exfalso; rw [hix] at hg37_1; simp at hg37_1)
     · exact absurd hsn hg36_14
    · exact absurd rfl hg36_4
theorem args2_open {W : World} {H : Type} {enc : TypeId × Value → H} {args : Array Value} {ds : List (DataW H)} {p : List MemPlace} {t0 t1 : TypeId} (hA : DataW.TrodAll enc Tryz.prog W 0 (fun _ => true) true [t0, t1] args.toList ds p) :
    ∃ v0 v1 d0 d1 p0 p1, args = #[v0, v1] ∧ ds = [d0, d1] ∧ DataW.Trod enc Tryz.prog W 0 (fun _ => true) true t0 v0 d0 p0 ∧ DataW.Trod enc Tryz.prog W 0 (fun _ => true) true t1 v1 d1 p1 ∧ p = p0 ++ (p1 ++ []) := by
  obtain ⟨l⟩ := args
  obtain ⟨v0, l1, d0, s1, p0, r0, a0, b0, h0, hA, e0⟩ := Zi hA
  obtain ⟨v1, l2, d1, s2, p1, r1, a1, b1, h1, hA, e1⟩ := Zi hA
  obtain ⟨a3, b3, e3⟩ := trodAll_nil hA
  refine ⟨v0, v1, d0, d1, p0, p1, congrArg List.toArray (show l = _ by rw [← a3, ← a1]; exact a0), by rw [b0, b1, b3], h0, h1, by rw [e0, e1, e3]⟩
theorem fails_calls {H : Type} {enc : TypeId × Value → H} {W : World} {base : Nat} {args : Array Value} {ds gs : List (DataW H)} {before : List MemPlace}
    (hval0 : ∀ (j : Nat) t v, Tryz.f5.params[j]? = some t → args[j]? = some v → Value.okWide Tryz.prog W .any base t v)
    (hW : DataW.Whole enc Tryz.prog Tryz.f5.params.toList Rows.nodeFailsSpec.vars false W args.toList ds gs before) (hL : laidMetH Tryz.prog Jg W) :
    Calls Tryz.prog 5 args W fun e W' => ∃ v, e = .returned v ∧ Rows.nodeFailsSpec.post enc Tryz.prog Tryz.f5 false true false false W args v W' := by
  have hW' := hW
  obtain ⟨p, q, hA, hV, rfl, hfz, hnd⟩ := hW
  have hpar : Tryz.f5.params.toList = [22, 25] := by rw [Tryz.params5]
  rw [hpar] at hA
  rw [Tryz.params5] at hval0
  obtain ⟨v0, v1, d0, d1, p0, p1, rfl, rfl, h0, h1, rfl⟩ := args2_open hA
  obtain ⟨rfl, rfl⟩ := trodVars_none hV
  obtain ⟨G, hG, hGr, hGat⟩ := glob_of_laid hL
  have hall : ∀ i o, W.heap[i]? = some o → (i, o) ∈ ([G, Y1 3 W] : Res).flatten := fun i o h => M4 hGr hGat h
  obtain ⟨qa, ca, acts, rfl, hacts, hlen⟩ := acts_of hall (hval0 0 22 v0 rfl rfl) h0
  obtain ⟨a, rfl, ha⟩ := act_of hall (hval0 1 25 v1 rfl rfl) h1
  have hw := fails_ok (w0 := { W with drawn := 0 }) (F := []) (shelfI rfl) shelfP (shelfV rfl) G (Y1 3 W) hG qa ca acts hacts a ha hlen
  refine (hw.h W (own_all hGr hGat)).mono fun e W' ⟨v, L', he, ⟨hv, hL'⟩, ho⟩ => ?_
  subst hv; subst hL'
  have hb := below_all hGr hGat ho
  have hlt : ∀ x ∈ p0 ++ (p1 ++ []), x.block < W.heap.size := fun x hx => hW'.lt x (by simpa using hx)
  refine ⟨_, he, ⟨_, _, _, [], p0 ++ (p1 ++ []), [], hW', trodAll_mk1 (shut_bool und4 true), ?_, rfl, hb.frame _, fun h => by cases h⟩⟩
  rw [hpar]
  exact ⟨_, _, JR Me.1 Me.2 h0 hb (fun x hx => hlt x (by simp [hx])), ⟨_, _, JR Md.1 Md.2 h1 hb (fun x hx => hlt x (by simp [hx])), rfl, rfl⟩, rfl⟩
theorem fails_lifted (os : Os) (started : os.Started) (H : Type) (enc : TypeId × Value → H) :
    ReturnsInHanded {} Tryz.checked os 5 .any (fun w args => (Rows.nodeFailsSpec.pre enc Tryz.prog Tryz.f5 [] false w args ∧ laidMetH Tryz.prog Jg w) ∧ sizedMet enc Tryz.prog Tryz.f5 (OpenSpec.ofChange Rows.nodeFailsSpec) false w args)
      (Rows.nodeFailsSpec.post enc Tryz.prog Tryz.f5 false true false false) := by
  refine returnsInHanded_of_change_and (C := Tryz.checked) (X := fun w _ => laidMetH Tryz.prog Jg w) (fun _ _ _ hh h => h.of_heap hh) own_knob started (by kernel_rfl) Tryz.func5
    (ChangeSpec.witness_shaped (enc := enc) (C := Tryz.checked) (os := os) (X := fun w _ => laidMetH Tryz.prog Jg w) false (World.doorLaid Tryz.prog 400 os) #[.slice none 0 0, .agg #[.int .i64 0, .int .i64 0, .int .i64 0, .slice none 0 0]] 8 rfl (World.shaped_of_RefB (by kernel_rfl) (by kernel_rfl)) (by kernel_rfl) (by kernel_rfl) (by kernel_rfl) (door_met os _)) ?_
  intro W base args ds gs before hval0 hW _ _ hL _
  exact fails_calls hval0 hW hL
theorem fails_row : Rows.NodeFailsSaid :=
  OpenClaim.holds_of_wide 5 Tryz.f5 rfl rfl rfl rfl rfl rfl rfl ⟨rfl, rfl, rfl, rfl, rfl⟩ rfl rfl rfl rfl rfl (by kernel_rfl) Tryz.func5 (by kernel_rfl)
    (of_decide_eq_true (by kernel_rfl)) (by unfold Func.isWrapper; first | (rw [if_pos (by decide +kernel)]; kernel_rfl) | (rw [if_neg (by decide +kernel)]; exact ⟨rfl, rfl⟩))
    (fun os started H enc _ => fails_lifted os started H enc)
theorem fails_holds : Rows.NodeFailsCardSaid :=
  Claim7.holds_tied_plain_at .later [] [.data, .data, .data] true (true, "2c26ad9126d44e359378a4d7e32ef6c34f7e5eb91ab38820adcb41158b47475a") true
    fails_row (fun _ h => by cases h) (by kernel_rfl) (fun _ h => by cases h) nodeFails_row_tie rfl ⟨rfl, rfl⟩ (by kernel_rfl) rfl
    (fun f fn hf hfn => by
      obtain rfl : f = 5 := Option.some.inj ((show Tryz.prog.funcNamed "drumlin/drumlinlaw13.NodeFails" = some 5 by kernel_rfl).symm.trans hf) |>.symm
      obtain rfl : fn = Tryz.f5 := (Option.some.inj (Tryz.func5.symm.trans hfn)).symm
      exact ⟨by kernel_rfl, fun j t ht => by
        rw [Tryz.params5] at ht
        have hm : t ∈ [22, 25] := by simpa using Array.mem_of_getElem? ht
        have hall : ([22, 25].all fun u => !Tryz.prog.wantsStandIn u) = true := by kernel_rfl
        exact (show Tryz.prog.wantsStandIn t = false by simpa using List.all_eq_true.1 hall t hm)⟩)
    (by kernel_rfl)
#print axioms fails_holds
end
end Go.Proofs.YtjikpomndbkfgaaGreatDoor
