/- NodeCosts: for every input that the statement's row lets in the law answers true and its argument reads as before; conditions: none beyond the row's own (part 6; joined, pruned and shortened by a program of the prover's own: names of two letters stand for longer ones.) -/
import Derived.Test.YtjikpomndbkfgaaGreatDoorCO5
import Derived.Deep.Slices
import Derived.OpenShut
import Derived.ProofKit
import Derived.Test.YtjikpomndbkfgaaGreatDoorRows
import Derived.LaidMore
import Derived.Stop.Joined
import Derived.Shelf.Sort.Plain
import Derived.Shelf.Slices.In.SortNone
import Derived.Shelf.SlIterI.Collect
import Derived.Shelf.SlSortCmp.NoneTotal
import Derived.Test.YtjikpomndbkfgaaGreatDoorCards
import Derived.Test.YtjikpomndbkfgaaGreatDoorTie
import Derived.SevenTiedAt
import Derived.DeepKeys4
set_option linter.all false
set_option linter.unusedVariables false
set_option linter.unusedSimpArgs false
set_option linter.unusedSectionVars false
namespace Go.Proofs.YtjikpomndbkfgaaGreatDoor
open Go Go.Sx Go.Nd
set_option maxRecDepth 10000
section
variable {W X : RS} {D : Int → Option Sec} {nx : Int} {H : Int → Prop} {S : Int × Int → Prop}
theorem TR.kid (hr : TR W X H S) (k : Int × Int) : jQ X k ↔ Z3 W H k := by
  constructor
  · rintro ⟨i, hi, hh, hu⟩
    by_cases hH : H i
    · rw [hr.b0 i hi hH] at hh; cases hh
    · rw [hr.b1 i hi hH] at hh; exact ⟨i, hi, hh, hH, hu⟩
  · rintro ⟨i, hi, hh, hH, hu⟩
    exact ⟨i, hi, by rw [hr.b1 i hi hH]; exact hh, hu⟩
theorem holeR_wh (X : RS) {i : Int} (hi : InB i) {k : Int × Int} (hk : qw k) : qn (xQ X i) k = if k = (1, i) then 0 else qn X k := by
  rcases wL hk with ⟨j, hj, rfl⟩ | rfl | rfl | rfl | ⟨j, hj, rfl⟩
  · rw [yJ, yJ]
    show (upd X.all i Blk.zero j).at_ = _
    unfold upd
    by_cases e : j = i
    · rw [if_pos e, if_pos (by rw [e])]; rfl
    · rw [if_neg e, if_neg (by simpa using e)]
  · rw [if_neg (by simp)]; rfl
  · rw [if_neg (by simp)]
    show (if (wG i).1 = 1 then (⟨X.sg.at_, true⟩ : yF) else X.sg).at_ = _
    split <;> rfl
  · rw [if_neg (by simp)]
    show (if (wG i).1 = 2 then (⟨X.db.at_, true⟩ : yF) else X.db).at_ = _
    split <;> rfl
  · rw [if_neg (by simp), kf, kf]
    show ((if (wG i).1 = 2 then upd X.leaves (wG i).2.1 ⟨(X.leaves (wG i).2.1).at_, true⟩ else X.leaves) j).at_ = _
    split
    · unfold upd; split
      · rename_i e; rw [e]
      · rfl
    · rfl
theorem holeR_st (X : RS) {i : Int} (hi : InB i) {k : Int × Int} (hk : qw k) (h1 : k.1 ≠ 1) : zD (xQ X i) k = true ↔ (zD X k = true ∨ k = (2, 0) ∨ kz i k) := by
  rcases wL hk with ⟨j, hj, rfl⟩ | rfl | rfl | rfl | ⟨j, hj, rfl⟩
  · exact absurd rfl h1
  · constructor
    · intro _; exact .inr (.inl rfl)
    · intro _; rfl
  · show (if (wG i).1 = 1 then (⟨X.sg.at_, true⟩ : yF) else X.sg).stale = true ↔ _
    have hu : kz i (3, 0) ↔ (wG i).1 = 1 := by
      unfold kz; rw [Wl]
      constructor
      · rintro (h | h)
        · exact absurd h.1 (by decide)
        · exact h
      · exact .inr
    rw [hu]
    by_cases e : (wG i).1 = 1
    · rw [if_pos e]; simp [e]
    · rw [if_neg e]; simp [e]; rfl
  · show (if (wG i).1 = 2 then (⟨X.db.at_, true⟩ : yF) else X.db).stale = true ↔ _
    have hu : kz i (4, 0) ↔ (wG i).1 = 2 := by
      unfold kz; rw [X9]
      constructor
      · rintro (h | h)
        · exact h.2
        · exact absurd h (xt i)
      · intro h; exact .inl ⟨rfl, h⟩
    rw [hu]
    by_cases e : (wG i).1 = 2
    · rw [if_pos e]; simp [e]
    · rw [if_neg e]; simp [e]; rfl
  · unfold zD
    rw [if_pos rfl, if_pos rfl]
    show ((if (wG i).1 = 2 then upd X.leaves (wG i).2.1 ⟨(X.leaves (wG i).2.1).at_, true⟩ else X.leaves) j).stale = true ↔ _
    rw [V1, WJ]
    by_cases e : (wG i).1 = 2
    · rw [if_pos e]; unfold upd
      by_cases e2 : j = (wG i).2.1
      · rw [if_pos e2]; simp [e, e2]
      · rw [if_neg e2]; simp [e, Ne.symm e2]
    · rw [if_neg e]; simp [e]
theorem TR.hole (hI : Inv W D nx) (hr : TR W X H (fun _ => False)) {i : Int} (hi : InB i) (hn : ¬ H i) : TR W (xQ X i) (fun j => H j ∨ j = i) (fun _ => False) := by
  refine ⟨hr.ts.hole hI hi hn (fun _ _ _ _ h => h.elim) (fun k hk => holeR_wh X hi hk) (fun k hk h1 => holeR_st X hi hk h1) rfl, fun j hj hh => ?_, fun j hj hh => ?_, hr.num, hr.ver, hr.kind, hr.size, hr.time⟩
  · show upd X.all i Blk.zero j = _
    by_cases e : j = i
    · rw [e, zQ]
    · rw [wb _ _ e]; exact hr.b0 j hj (hh.resolve_right e)
  · show upd X.all i Blk.zero j = _
    rw [wb _ _ (fun e => hh (.inr e))]; exact hr.b1 j hj (fun e => hh (.inl e))
theorem TR.holes (hI : Inv W D nx) : ∀ (l : List Int) (X : RS) (b : Bool) (H : Int → Prop), TR W X H (fun _ => False) → (∀ i ∈ l, InB i ∧ ¬ H i) → l.Nodup →
    TR W (l.foldl yq (X, b)).1 (fun j => H j ∨ (j ∈ l ∧ (W.all j).has = true)) (fun _ => False) ∧ ((l.foldl yq (X, b)).2 = true ↔ (b = true ∨ ∃ j ∈ l, (W.all j).has = true)) := by
  intro l
  induction l with
  | nil =>
    intro X b H hr _ _
    have : (fun j => H j ∨ (j ∈ ([] : List Int) ∧ (W.all j).has = true)) = H := by funext j; simp
    rw [this]; exact ⟨hr, by simp⟩
  | cons i l ih =>
    intro X b H hr hl hnd
    have hnd' := List.nodup_cons.1 hnd
    have hi := hl i (by simp)
    rw [List.foldl_cons]
    have hX : X.all i = W.all i := hr.b1 i hi.1 hi.2
    by_cases hh : (W.all i).has = true
    · have hst : yq (X, b) i = (xQ X i, true) := by unfold yq; rw [if_pos (by dsimp only; rw [hX]; exact hh)]
      rw [hst]
      have := ih (xQ X i) true (fun j => H j ∨ j = i) (hr.hole hI hi.1 hi.2) (fun j hj => ⟨(hl j (by simp [hj])).1, fun e => e.elim (hl j (by simp [hj])).2 (fun e2 => hnd'.1 (e2 ▸ hj))⟩) hnd'.2
      have e : (fun j => H j ∨ (j ∈ i :: l ∧ (W.all j).has = true)) = (fun j => (H j ∨ j = i) ∨ (j ∈ l ∧ (W.all j).has = true)) := by
        funext j
        refine propext ⟨?_, ?_⟩
        · rintro (h | ⟨h1, h2⟩)
          · exact .inl (.inl h)
          · rcases List.mem_cons.1 h1 with h1 | h1
            · exact .inl (.inr h1)
            · exact .inr ⟨h1, h2⟩
        · rintro ((h | h) | ⟨h1, h2⟩)
          · exact .inl h
          · exact .inr ⟨by rw [h]; simp, by rw [h]; exact hh⟩
          · exact .inr ⟨by simp [h1], h2⟩
      rw [e]
      refine ⟨this.1, this.2.trans ⟨fun _ => .inr ⟨i, by simp, hh⟩, fun _ => .inl rfl⟩⟩
    · have hst : yq (X, b) i = (X, b) := by unfold yq; rw [if_neg (by dsimp only; rw [hX]; exact hh)]
      rw [hst]
      have := ih X b H hr (fun j hj => hl j (by simp [hj])) hnd'.2
      have e : (fun j => H j ∨ (j ∈ i :: l ∧ (W.all j).has = true)) = (fun j => H j ∨ (j ∈ l ∧ (W.all j).has = true)) := by
        funext j
        refine propext ⟨?_, ?_⟩
        · rintro (h | ⟨h1, h2⟩)
          · exact .inl h
          · rcases List.mem_cons.1 h1 with h1 | h1
            · exact absurd (h1 ▸ h2) hh
            · exact .inr ⟨h1, h2⟩
        · rintro (h | ⟨h1, h2⟩)
          · exact .inl h
          · exact .inr ⟨by simp [h1], h2⟩
      rw [e]
      refine ⟨this.1, this.2.trans ⟨?_, ?_⟩⟩
      · rintro (h | ⟨j, h1, h2⟩)
        · exact .inl h
        · exact .inr ⟨j, by simp [h1], h2⟩
      · rintro (h | ⟨j, h1, h2⟩)
        · exact .inl h
        · rcases List.mem_cons.1 h1 with h1 | h1
          · exact absurd (h1 ▸ h2) hh
          · exact .inr ⟨j, h1, h2⟩
theorem Ka (X : RS) (p : yF) : yH X p = { X with gone := if p.at_ ≠ 0 then X.gone ++ [p.at_] else X.gone } := by unfold yH; split <;> rfl
theorem TR.loseP (hI : Inv W D nx) (hr : TR W X H S) {q : Int × Int} (hq : qw q) (h1 : q.1 ≠ 1) (h2 : q.1 ≠ 2) (hk : ¬ Z3 W H q) {X' : RS}
    (hw : ∀ k, qw k → qn X' k = if k = q then 0 else qn X k) (hs : ∀ k, qw k → k.1 ≠ 1 → zD X' k = if k = q then false else zD X k)
    (hg : X'.gone = if qn X q ≠ 0 then X.gone ++ [qn X q] else X.gone) (ha : X'.all = X.all) (e1 : X'.num = X.num) (e2 : X'.ver = X.ver) (e3 : X'.kind = X.kind) (e4 : X'.size = X.size) (e5 : X'.time = X.time) : TR W X' H (fun k => S k ∨ k = q) := by
  refine ⟨hr.ts.lose hI hq h1 h2 hk hw (fun k hkp hk1 => ?_) hg, fun i hi hh => by rw [ha]; exact hr.b0 i hi hh, fun i hi hh => by rw [ha]; exact hr.b1 i hi hh, e1.trans hr.num, e2.trans hr.ver, e3.trans hr.kind, e4.trans hr.size, e5.trans hr.time⟩
  rw [hs k hkp hk1]
  by_cases e : k = q
  · rw [if_pos e]; simp [e]
  · rw [if_neg e]; simp [e]
theorem TR.leaf (hI : Inv W D nx) (hr : TR W X H S) {j : Int} (hj : 0 ≤ j ∧ j < 32) : TR W (wd X j) H (fun k => S k ∨ k = (5, j)) := by
  unfold wd
  by_cases hk : yE X 2 j = true
  · rw [if_pos hk]
    exact { hr with ts := hr.ts.keep ((hr.kid (5, j)).1 ((YD X j hj.1).1 hk)) }
  · rw [if_neg hk, Ka]
    refine hr.loseP hI (zz hj) (by simp) (by simp) (fun e => hk ((YD X j hj.1).2 ((hr.kid (5, j)).2 e))) (fun k hkp => ?_) (fun k hkp hk1 => ?_) rfl rfl rfl rfl rfl rfl rfl
    · rcases wL hkp with ⟨i, hi, rfl⟩ | rfl | rfl | rfl | ⟨j', hj', rfl⟩
      · exact (if_neg (by simp)).symm
      · exact (if_neg (by simp)).symm
      · exact (if_neg (by simp)).symm
      · exact (if_neg (by simp)).symm
      · rw [kf, kf]; dsimp only; unfold upd
        by_cases e : j' = j
        · rw [if_pos e, if_pos (by rw [e])]
        · rw [if_neg e, if_neg (by simpa using e)]
    · rcases wL hkp with ⟨i, hi, rfl⟩ | rfl | rfl | rfl | ⟨j', hj', rfl⟩
      · exact absurd rfl hk1
      · exact (if_neg (by simp)).symm
      · exact (if_neg (by simp)).symm
      · exact (if_neg (by simp)).symm
      · unfold zD; rw [if_pos rfl, if_pos rfl]; dsimp only; unfold upd
        by_cases e : j' = j
        · rw [if_pos e, if_pos (by rw [e])]
        · rw [if_neg e, if_neg (by simpa using e)]
theorem TR.sgs (hI : Inv W D nx) (hr : TR W X H S) : TR W (Qy X) H (fun k => S k ∨ k = (3, 0)) := by
  unfold Qy
  by_cases hk : yE X 1 0 = true
  · rw [if_pos hk]
    exact { hr with ts := hr.ts.keep ((hr.kid (3, 0)).1 ((Jy X).1 hk)) }
  · rw [if_neg hk, Ka]
    refine hr.loseP hI zT (by decide) (by decide) (fun e => hk ((Jy X).2 ((hr.kid (3, 0)).2 e))) (fun k hkp => ?_) (fun k hkp hk1 => ?_) rfl rfl rfl rfl rfl rfl rfl
    · rcases wL hkp with ⟨i, hi, rfl⟩ | rfl | rfl | rfl | ⟨j', hj', rfl⟩
      · exact (if_neg (by simp)).symm
      · rfl
      · rfl
      · rfl
      · exact (if_neg (by simp)).symm
    · rcases wL hkp with ⟨i, hi, rfl⟩ | rfl | rfl | rfl | ⟨j', hj', rfl⟩
      · exact absurd rfl hk1
      · rfl
      · rfl
      · rfl
      · exact (if_neg (by simp)).symm
theorem TR.dbs (hI : Inv W D nx) (hr : TR W X H S) : TR W (YI X) H (fun k => S k ∨ k = (4, 0)) := by
  unfold YI
  by_cases hk : yE X 2 (-1) = true
  · rw [if_pos hk]
    exact { hr with ts := hr.ts.keep ((hr.kid (4, 0)).1 ((Jz X).1 hk)) }
  · rw [if_neg hk, Ka]
    refine hr.loseP hI zX (by decide) (by decide) (fun e => hk ((Jz X).2 ((hr.kid (4, 0)).2 e))) (fun k hkp => ?_) (fun k hkp hk1 => ?_) rfl rfl rfl rfl rfl rfl rfl
    · rcases wL hkp with ⟨i, hi, rfl⟩ | rfl | rfl | rfl | ⟨j', hj', rfl⟩
      · exact (if_neg (by simp)).symm
      · rfl
      · rfl
      · rfl
      · exact (if_neg (by simp)).symm
    · rcases wL hkp with ⟨i, hi, rfl⟩ | rfl | rfl | rfl | ⟨j', hj', rfl⟩
      · exact absurd rfl hk1
      · rfl
      · rfl
      · rfl
      · exact (if_neg (by simp)).symm
theorem TR.leaves (hI : Inv W D nx) : ∀ (l : List Int) (X : RS) (S : Int × Int → Prop), TR W X H S → (∀ j ∈ l, 0 ≤ j ∧ j < 32) → TR W (l.foldl wd X) H (fun k => S k ∨ ∃ j ∈ l, k = (5, j)) := by
  intro l
  induction l with
  | nil =>
    intro X S hr _
    have : (fun k => S k ∨ ∃ j ∈ ([] : List Int), k = (5, j)) = S := by funext k; simp
    rw [this]; exact hr
  | cons j l ih =>
    intro X S hr hl
    rw [List.foldl_cons]
    have := ih (wd X j) _ (hr.leaf hI (hl j (by simp))) (fun i hi => hl i (by simp [hi]))
    have e : (fun k => S k ∨ ∃ i ∈ j :: l, k = (5, i)) = (fun k => (S k ∨ k = (5, j)) ∨ ∃ i ∈ l, k = (5, i)) := by
      funext k
      refine propext ⟨?_, ?_⟩
      · rintro (h | ⟨i, h1, h2⟩)
        · exact .inl (.inl h)
        · rcases List.mem_cons.1 h1 with h1 | h1
          · exact .inl (.inr (by rw [h2, h1]))
          · exact .inr ⟨i, h1, h2⟩
      · rintro ((h | h) | ⟨i, h1, h2⟩)
        · exact .inl h
        · exact .inr ⟨j, by simp, h⟩
        · exact .inr ⟨i, by simp [h1], h2⟩
    rw [e]; exact this
theorem TR.all (hI : Inv W D nx) (P : Nat) : TR W (Zc (((zu 1064).drop P).foldl yq (W, false))) (fun j => j ∈ (zu 1064).drop P ∧ (W.all j).has = true) ki := by
  have hmem : ∀ i, i ∈ (zu 1064).drop P → InB i := fun i hi => yG.1 (List.mem_of_mem_drop hi)
  have hnd : ((zu 1064).drop P).Nodup := by
    have : (zu 1064).Nodup := (xg 1064).imp (fun h => Int.ne_of_lt h)
    exact this.sublist (List.drop_sublist _ _)
  obtain ⟨h1, h2⟩ := TR.holes hI ((zu 1064).drop P) W false (fun _ => False) (TR.start hI) (fun i hi => ⟨hmem i hi, id⟩) hnd
  have e : (fun j => False ∨ (j ∈ (zu 1064).drop P ∧ (W.all j).has = true)) = (fun j => j ∈ (zu 1064).drop P ∧ (W.all j).has = true) := by funext j; simp
  rw [e] at h1
  obtain ⟨r, hr⟩ : ∃ r, ((zu 1064).drop P).foldl yq (W, false) = r := ⟨_, rfl⟩
  rw [hr] at h1 h2 ⊢
  unfold Zc
  by_cases hb : r.2 = true
  · rw [if_pos hb]
    have h3 := ((TR.leaves hI (zu 32) r.1 _ h1 (fun j hj => yG.1 hj)).sgs hI).dbs hI
    exact { h3 with ts := h3.ts.sets (fun k hk => by
      unfold yT
      refine or_congr Iff.rfl ⟨?_, ?_⟩
      · rintro ⟨k1, k2, -, k4⟩
        refine ⟨k1, k2, ?_, k4⟩
        rcases wL hk with ⟨i, hi, rfl⟩ | rfl | rfl | rfl | ⟨j, hj, rfl⟩
        · exact absurd rfl k1
        · exact absurd rfl k2
        · exact .inl (.inr rfl)
        · exact .inr rfl
        · exact .inl (.inl (.inr ⟨j, yG.2 hj, rfl⟩))
      · rintro ⟨k1, k2, -, k4⟩; exact ⟨k1, k2, trivial, k4⟩) }
  · rw [if_neg hb]
    have hno : ∀ j ∈ (zu 1064).drop P, ¬ (W.all j).has = true := fun j hj hh => hb (h2.2 (.inr ⟨j, hj, hh⟩))
    have hH : (fun j => j ∈ (zu 1064).drop P ∧ (W.all j).has = true) = (fun _ => False) := by
      funext j
      refine propext ⟨fun h => hno j h.1 h.2, False.elim⟩
    have hrW : ∀ (l : List Int), (∀ j ∈ l, ¬ (W.all j).has = true) → l.foldl yq (W, false) = (W, false) := by
      intro l
      induction l with
      | nil => intro _; rfl
      | cons j l ih =>
        intro hl
        rw [List.foldl_cons, show yq (W, false) j = (W, false) from by unfold yq; rw [if_neg (hl j (by simp))]]
        exact ih (fun i hi => hl i (by simp [hi]))
    rw [hrW _ hno] at hr
    rw [hH, ← hr]
    exact ⟨Kq hI (fun _ _ => rfl) (fun _ _ _ => Iff.rfl) (List.Perm.refl _), fun _ _ e => e.elim, fun _ _ _ => rfl, rfl, rfl, rfl, rfl, rfl⟩
end
theorem Xn (s : Sec) (k j : Nat) (hk : k ≤ 128) (hj : j < 128) : (s.clr k).l.getD j 0 = if k ≤ j then 0 else s.l.getD j 0 := by
  unfold Sec.clr
  rw [J3 s _ k j (by rw [List.length_replicate]; omega) (fun b hb => by rw [List.mem_replicate] at hb; omega), List.length_replicate]
  by_cases h : k ≤ j
  · rw [if_pos ⟨h, by omega⟩, if_pos h, List.getD_eq_getElem?_getD, List.getElem?_replicate]; split <;> rfl
  · rw [if_neg (fun e => h e.1), if_neg h]
theorem xl {n P : Nat} {j : Int} : j ∈ (zu n).drop P ↔ (P : Int) ≤ j ∧ j < n := by
  constructor
  · intro h
    obtain ⟨i, hi⟩ := List.mem_iff_getElem?.1 h
    rw [List.getElem?_drop] at hi
    have hlt := (List.getElem?_eq_some_iff.1 hi).1
    rw [xE] at hlt
    rw [jP hlt] at hi
    have := Option.some.inj hi
    omega
  · rintro ⟨h1, h2⟩
    refine List.mem_iff_getElem?.2 ⟨j.toNat - P, ?_⟩
    rw [List.getElem?_drop, jP (by omega)]
    congr 1; omega
section
variable {n : NS} {W : RS} {D : Int → Option Sec} {nx : Int}
theorem first_cpl (h : Cpl n W) (hI : Inv W D nx) {size : Int} (hs : 0 ≤ size ∧ size ≤ 136192) :
    ∃ n1, jF n D size = some n1 ∧ Cpl n1 (ym W size) ∧ Inv (ym W size) D nx ∧ (ym W size).size = W.size ∧
      (∀ i, InB i → i < zW size → ∀ j : Nat, j < 128 → size ≤ 128 * i + j → ((ym W size).all i).s.l.getD j 0 = 0) ∧ n1.size = n.size := by
  have hW := hI.size
  unfold jF ym
  rw [h.size]
  by_cases hc : size < W.size ∧ size % 128 ≠ 0 ∧ (W.all (size / 128)).has = true
  · have hQ : zW size - 1 = size / 128 := by unfold zW; rw [if_neg (by omega)]; omega
    have hi : InB (size / 128) := ⟨by omega, by omega⟩
    rw [if_pos hc, hQ, if_pos ⟨hc.1, hc.2.1, (h.hasN_iff hI.has hi).2 hc.2.2⟩, X5 h hI hi]
    obtain ⟨Q, hQe⟩ : ∃ Q, size / 128 = Q := ⟨_, rfl⟩
    obtain ⟨r, hr⟩ : ∃ r : Nat, (size % 128).toNat = r := ⟨_, rfl⟩
    rw [hQe] at hi hc ⊢
    rw [hr]
    refine ⟨_, rfl, ?_, ?_, rfl, ?_, h.size⟩
    · refine ⟨h.num, h.ver, h.kind, h.size, h.time, fun q hq => (h.at_ q hq).trans ?_, fun j hj => ?_, h.stale, h.stale1, h.gone, ⟨fun j hj => ?_, h.ok.at1, h.ok.at2, h.ok.stale⟩⟩
      · rcases wL hq with ⟨i, hi', rfl⟩ | rfl | rfl | rfl | ⟨j, hj, rfl⟩
        · rw [yJ, yJ]; dsimp only; unfold upd; split
          · rename_i e; rw [e]; rfl
          · rfl
        all_goals rfl
      · show upd n.data Q (some ((W.all Q).s.clr r)) j = _
        dsimp only
        by_cases e : j = Q
        · subst e; simp only [zQ]; rfl
        · simp only [wb _ _ e]; exact h.data j hj
      · by_cases e : j = Q
        · subst e; exact hi
        · exact h.ok.data j (by have hj' : upd n.data Q (some ((W.all Q).s.clr r)) j ≠ none := hj; rwa [wb _ _ e] at hj')
    · refine hI.touch (fun j => j = Q) (fun j e => e ▸ hi) ⟨Q, rfl⟩ ⟨fun _ _ => rfl, rfl, rfl, rfl, rfl, rfl, rfl, rfl, rfl, fun j hj => ?_⟩ (fun j hj => ?_) (fun j hj => ?_) (fun j hj hn => ?_) hI.size (fun j hj m hm hle => ?_)
      · dsimp only; unfold upd; split
        · rename_i e; rw [e]; rfl
        · rfl
      · dsimp only
        by_cases e : j = Q
        · subst e; rw [zQ]; simp [YL, hc.2.2]
        · rw [wb _ _ e]; simp [e]
      · dsimp only
        by_cases e : j = Q
        · subst e; rw [zQ]; simp [YL]
        · rw [wb _ _ e]; simp [e]
      · dsimp only; rw [wb _ _ hn]
      · dsimp only at hle ⊢
        by_cases e : j = Q
        · subst e; rw [zQ]
          show ((W.all j).s.clr r).l.getD m 0 = 0
          rw [Xn _ _ _ (by omega) hm]; split
          · rfl
          · exact hI.zero j hj m hm hle
        · rw [wb _ _ e]; exact hI.zero j hj m hm hle
    · intro i hi2 hlt j hj hle
      dsimp only
      have : i = Q := by omega
      subst this
      rw [zQ]
      show ((W.all i).s.clr r).l.getD j 0 = 0
      rw [Xn _ _ _ (by omega) hj, if_pos (by omega)]
  · rw [if_neg hc]
    have hc2 : ¬ (size < W.size ∧ size % 128 ≠ 0 ∧ x8 n (zW size - 1)) := by
      rintro ⟨h1, h2, h3⟩
      have hQ : zW size - 1 = size / 128 := by unfold zW; rw [if_neg (by omega)]; omega
      rw [hQ] at h3
      exact hc ⟨h1, h2, (h.hasN_iff hI.has ⟨by omega, by omega⟩).1 h3⟩
    rw [if_neg hc2]
    refine ⟨n, rfl, h, hI, rfl, ?_, h.size⟩
    intro i hi hlt j hj hle
    have hb := hi.1
    by_cases hm : size % 128 = 0
    · exfalso; unfold zW at hlt; split at hlt <;> omega
    · have hiQ : i = size / 128 := by unfold zW at hlt; split at hlt <;> omega
      by_cases hlt2 : size < W.size
      · have hh : (W.all i).has = false := by
          cases e : (W.all i).has with
          | false => rfl
          | true => exact absurd ⟨hlt2, hm, by rw [← hiQ]; exact e⟩ hc
        rw [hI.hole i hi hh]; exact QY j
      · exact hI.zero i hi j hj (by omega)
theorem trunc_cpl (h : Cpl n W) (hI : Inv W D nx) (size : Int) :
    (j8 n D size).1 = (jZ W size).1 ∧ Cpl (j8 n D size).2 (jZ W size).2 ∧ Inv (jZ W size).2 D nx := by
  unfold j8 jZ
  by_cases h1 : size < 0
  · rw [if_pos h1, if_pos h1]; exact ⟨rfl, h, hI⟩
  · rw [if_neg h1, if_neg h1]
    by_cases h2 : 136192 < size
    · rw [if_pos h2, if_pos h2]; exact ⟨rfl, h, hI⟩
    · rw [if_neg h2, if_neg h2]
      obtain ⟨n1, hf, hC1, hI1, hsz, hZ, hsz1⟩ := first_cpl h hI (size := size) ⟨by omega, by omega⟩
      rw [hf]
      dsimp only
      obtain ⟨W1, hW1⟩ : ∃ W1, ym W size = W1 := ⟨_, rfl⟩
      rw [hW1] at hC1 hI1 hZ hsz ⊢
      have hP := YN (s := size) ⟨by omega, by omega⟩
      obtain ⟨P, hPe⟩ : ∃ P : Nat, zW size = P := ⟨(zW size).toNat, by omega⟩
      have hidx : ∀ i, i ∈ jd n1 ↔ InB i ∧ (W1.all i).has = true := fun i => by rw [hC1.idx hI1.has]; exact Qh
      have hnd : (jd n1).Nodup := by
        unfold jd
        exact ((xg 1064).imp (fun h => Int.ne_of_lt h)).sublist List.filter_sublist
      have hN := TN.holes hC1 hI1 (zW size - 1) (jd n1) n1 (fun _ => False) (TN.start hC1 hI1) (fun i hi => ⟨((hidx i).1 hi).1, ((hidx i).1 hi).2, id⟩) hnd
      have hR := TR.all hI1 P
      have hH : (fun j => False ∨ (j ∈ jd n1 ∧ zW size - 1 < j)) = (fun j => j ∈ (zu 1064).drop P ∧ (W1.all j).has = true) := by
        funext j
        refine propext ⟨?_, ?_⟩
        · rintro (e | ⟨h3, h4⟩)
          · exact e.elim
          · have := (hidx j).1 h3
            exact ⟨xl.2 ⟨by omega, this.1.2⟩, this.2⟩
        · rintro ⟨h3, h4⟩
          have := xl.1 h3
          exact .inr ⟨(hidx j).2 ⟨⟨by omega, by omega⟩, h4⟩, by omega⟩
      rw [hH] at hN
      have hth : k7 W1 size = ((zu 1064).drop P).foldl yq (W1, false) := by unfold k7; rw [hPe]; rfl
      have htn : xw n1 size = (jd n1).foldl (fun m i => if zW size - 1 < i then jr m i else m) n1 := rfl
      rw [← htn] at hN
      rw [← hth] at hR
      obtain ⟨X, hX⟩ : ∃ X, Zc (k7 W1 size) = X := ⟨_, rfl⟩
      obtain ⟨m, hm⟩ : ∃ m, xw n1 size = m := ⟨_, rfl⟩
      rw [hX] at hR ⊢
      rw [hm] at hN ⊢
      have hCX := tr_cpl hC1 hN hR
      have hIX := tr_inv hI1 (fun i hi => by have := xl.1 hi.1; exact ⟨by omega, by omega⟩) hR
      refine ⟨rfl, ?_⟩
      unfold xx K4
      rw [hCX.size]
      by_cases e : X.size ≠ size
      · rw [if_pos e, if_pos e]
        have hst : ∀ q, qw q → q.1 ≠ 1 → zD { X with size := size, self := ⟨X.self.at_, true⟩ } q = if q = (2, 0) then true else zD X q := by
          intro q hq hq1
          rcases wL hq with ⟨i, hi, rfl⟩ | rfl | rfl | rfl | ⟨j, hj, rfl⟩
          · exact absurd rfl hq1
          · rfl
          · rfl
          · rfl
          · exact (if_neg (by simp)).symm
        refine ⟨hCX.setStale (W1 := { X with size := size, self := ⟨X.self.at_, true⟩ }) y2 (by decide) (fun _ _ => rfl) (fun _ _ => rfl) hst rfl rfl rfl rfl _ (by dsimp only; rw [show X.time = m.time from hCX.time.symm]; rfl), ?_⟩
        refine hIX.mark (fun _ _ => rfl) (fun _ _ => rfl) (fun q hq hq1 hs => by rw [hst q hq hq1, hs]; simp) (fun q hq hq1 hq2 hs => ?_) rfl rfl rfl rfl (.inr rfl) (by dsimp only; omega) hIX.time ?_
        · rw [hst q hq hq1, if_neg (fun e => hq2 (by rw [e]))] at hs
          exact .inl hs
        · intro i hi j hj hle
          dsimp only at hle
          by_cases hh : i ∈ (zu 1064).drop P ∧ (W1.all i).has = true
          · rw [hR.b0 i hi hh]; exact QY j
          · rw [hR.b1 i hi hh]
            by_cases hlt : i < zW size
            · exact hZ i hi hlt j hj hle
            · have : (W1.all i).has = false := by
                cases e2 : (W1.all i).has with
                | false => rfl
                | true => exact absurd ⟨xl.2 ⟨by omega, hi.2⟩, e2⟩ hh
              rw [hI1.hole i hi this]; exact QY j
      · rw [if_neg e, if_neg e]; exact ⟨hCX, hIX⟩
end
end Go.Proofs.YtjikpomndbkfgaaGreatDoor
namespace Go.Sx
open Go
theorem Reads.mono {w0 w1 : World} {R L : Res} {y : Value} {m sz : Nat} {ys : List Value} (h : Reads w0 R y m sz ys) (hs : ∀ x, x ∈ R.flatten → x ∈ L.flatten) : Reads w1 L y m sz ys := by
  obtain ⟨p, c, h1, h2, h3⟩ := h.h
  refine ⟨p, c, h1, h2, h3.imp id ?_⟩
  rintro ⟨b, off, cs, e, fr, h4, h5, h6⟩
  exact ⟨b, off, cs, e, fr, h4, hs _ h5, h6⟩
theorem Reads.cutTo {w0 : World} {R : Res} {q : Option Addr} {m c t : Nat} {ys : List Value} (h : Reads w0 R (.slice q m c) m 1 ys) (ht : t ≤ m) (hm : 0 < m) :
    Reads w0 R (.slice (if c = 0 then q else q.map (·.add (0 * 1))) (t - 0) (c - 0)) t 1 (ys.take t) := by
  obtain ⟨p, c', h1, h2, h3⟩ := h.h
  cases h1
  rcases h3 with h3 | ⟨b, off, cs, e, fr, rfl, h5, h6⟩
  · omega
  · refine ⟨_, _, rfl, by rw [List.length_take]; omega, .inr ⟨b, off, cs, e, fr, ?_, h5, ?_⟩⟩
    · split
      · rfl
      · simp [yh]
    · rw [← h6, List.take_take, Nat.mul_one, Nat.mul_one, Nat.min_eq_left ht]
end Go.Sx
namespace Go.Proofs.YtjikpomndbkfgaaGreatDoor
open Go Go.Sx Go.Nd
set_option maxRecDepth 10000
section
variable {w0 : World} {L F : Res} {ba bl : Nat}
structure ZR where
  kind : Int
  at_ : Int
  n : Int
  q : Option Addr
  c : Nat
  bs : List Int
def Xx (a : ZR) : List Value := [.int .i64 a.kind, .int .i64 a.at_, .int .i64 a.n, .slice a.q a.bs.length a.c]
structure Vf (R : Res) (a : ZR) : Prop where
  at_ : -9223372036854775808 ≤ a.at_ ∧ a.at_ ≤ 9223372036854775807
  n : -9223372036854775808 ≤ a.n ∧ a.n ≤ 9223372036854775807
  bs : IsB a.bs
  len : a.bs.length ≤ a.c
  q : a.q = none → a.bs.length = 0
  reads : ∀ w0, Reads w0 R (.slice a.q a.bs.length a.c) a.bs.length 1 (u8s a.bs)
theorem xL (l : List Int) (n : Nat) : (u8s l).take n = u8s (l.take n) := by simp [u8s]
theorem Zt (m : Int) {M : Int} (h0 : 0 ≤ M) (h : M < 4611686018427387904) : 0 ≤ zb .and .i64 m M ∧ zb .and .i64 m M ≤ M := by
  have e : zb .and .i64 m M = IntKind.i64.wrap (((BitVec.ofInt 64 m &&& BitVec.ofInt 64 M : BitVec 64).toNat : Nat) : Int) := rfl
  rw [e, BitVec.toNat_and]
  have h1 := xN (w := 64) h0 (by have : (2 : Int) ^ 64 = 18446744073709551616 := (by decide); omega)
  have h2 : (BitVec.ofInt 64 m).toNat &&& (BitVec.ofInt 64 M).toNat ≤ (BitVec.ofInt 64 M).toNat := Nat.and_le_right
  have e1 : IntKind.i64.min = -9223372036854775808 := by decide
  have e2 : IntKind.i64.max = 9223372036854775807 := by decide
  obtain ⟨z, hz⟩ : ∃ z, (BitVec.ofInt 64 m).toNat &&& (BitVec.ofInt 64 M).toNat = z := ⟨_, rfl⟩
  rw [hz] at h2 ⊢
  rw [Qv (by rw [e1, e2]; omega)]
  omega
theorem tmod6 (m : Int) : -6 < m.tmod 6 ∧ m.tmod 6 < 6 := by
  rcases Int.lt_or_le m 0 with h | h
  · have e : m.tmod 6 = -((-m) % 6) := by
      rw [← Int.tmod_eq_emod_of_nonneg (show 0 ≤ -m by omega), Int.neg_tmod]; omega
    rw [e]; omega
  · rw [Int.tmod_eq_emod_of_nonneg h]; omega
def plA (a : ZR) : List (Int × Int) := [(2, 0), (3, 0), (4, 0), (5, zb .and .i64 a.n 31), (1, zb .and .i64 a.at_ 1023), (1, zb .and .i64 a.n 15)]
theorem plA_ok (a : ZR) : ∀ k ∈ plA a, qw k := by
  have h1 := Zt a.n (M := 31) (by omega) (by omega)
  have h2 := Zt a.at_ (M := 1023) (by omega) (by omega)
  have h3 := Zt a.n (M := 15) (by omega) (by omega)
  intro k hk
  simp only [plA, List.mem_cons, List.not_mem_nil, or_false] at hk
  rcases hk with rfl | rfl | rfl | rfl | rfl | rfl
  · exact y2
  · exact zT
  · exact zX
  · exact zz ⟨h1.1, by omega⟩
  · exact y3 ⟨h2.1, by omega⟩
  · exact y3 ⟨h3.1, by omega⟩
structure StP (nx : Int) (n : NS) (W : RS) (D : Int → Option Sec) (m : Nat) : Prop where
  cpl : Cpl n W
  inv : Inv W D nx
  nxb : nx ≤ 100 + 1100 * m
def StG (x m : Nat) (F L : Res) : Prop := ∃ p md v nx od n W D Cn C ba bl, StP nx n W D m ∧ NodeC p n Cn ∧ RefC ba bl W v C ∧ MapF (Value.int .i64) jE D od ∧ L = StD x p v md nx false od :: Cn :: C :: F
theorem StP.up {nx : Int} {n : NS} {W : RS} {D : Int → Option Sec} {m : Nat} (h : StP nx n W D m) : StP nx n W D (m + 1) := ⟨h.cpl, h.inv, by have := h.nxb; push_cast; omega⟩
theorem nodup_bd {l : List Int} {nx : Int} (hn : l.Nodup) (h : ∀ a ∈ l, 1 ≤ a ∧ a < nx) (hnx : 1 ≤ nx) : (l.length : Int) < nx := by
  have key : ∀ (l1 l2 : List Int), l1.Nodup → (∀ x ∈ l1, x ∈ l2) → l1.length ≤ l2.length := by
    intro l1
    induction l1 with
    | nil => intro l2 _ _; simp
    | cons a l ih =>
      intro l2 hn hs
      have h1 := List.nodup_cons.1 hn
      have ha := hs a (by simp)
      have := ih (l2.erase a) h1.2 (fun x hx => (List.mem_erase_of_ne (fun e => h1.1 (by subst e; exact hx))).2 (hs x (by simp [hx])))
      have e := List.length_erase_of_mem ha
      have pos : 0 < l2.length := List.length_pos_of_mem ha
      simp; omega
  have := key l (jJ 1 (nx - 1).toNat) hn (fun x hx => by
    have := h x hx
    exact List.mem_map.2 ⟨(x - 1).toNat, List.mem_range.2 (by omega), by omega⟩)
  rw [Wz] at this
  omega
theorem StP.gone {nx : Int} {n : NS} {W : RS} {D : Int → Option Sec} {m : Nat} (h : StP nx n W D m) (hm : m ≤ 50) : W.gone.length ≤ 60000 ∧ n.gone.length ≤ 60000 := by
  have h1 := nodup_bd h.inv.gnd h.inv.rngG h.inv.nx
  have h2 := h.nxb
  have h3 := h.cpl.gone.length_eq
  omega
theorem StP.fl {nx : Int} {n : NS} {W : RS} {D : Int → Option Sec} {m : Nat} (h : StP nx n W D m) : NFl n := by
  have hI := h.inv
  refine ⟨by rw [h.cpl.num, hI.num]; omega, by rw [h.cpl.ver, hI.ver]; omega, by rw [h.cpl.kind]; exact hI.kind, by rw [h.cpl.size]; exact hI.size, by rw [h.cpl.time]; exact hI.time⟩
theorem KV : Cpl (Zb 3 7 1) (WZ 3 7 1) ∧ Inv (WZ 3 7 1) (fun _ => none) 100 := by
  have hw : ∀ k, qw k → qn (WZ 3 7 1) k = 0 := by
    intro k hk
    rcases wL hk with ⟨i, hi, rfl⟩ | rfl | rfl | rfl | ⟨j, hj, rfl⟩ <;> rfl
  have hs : ∀ k, qw k → k.1 ≠ 1 → (zD (WZ 3 7 1) k = true ↔ k = (2, 0)) := by
    intro k hk h1
    rcases wL hk with ⟨i, hi, rfl⟩ | rfl | rfl | rfl | ⟨j, hj, rfl⟩
    · exact absurd rfl h1
    · exact ⟨fun _ => rfl, fun _ => rfl⟩
    · exact ⟨fun h => (by cases h), fun h => (by cases h)⟩
    · exact ⟨fun h => (by cases h), fun h => (by cases h)⟩
    · exact ⟨fun h => (by cases h), fun h => (by cases h)⟩
  refine ⟨⟨rfl, rfl, rfl, rfl, rfl, fun k hk => (hw k hk).symm, fun i hi => rfl, fun k hk h1 => ?_, fun i => ?_, List.Perm.refl _, ⟨fun k hk => absurd rfl hk, fun k hk => absurd rfl hk, fun k a h => (by cases h), fun k hk => ?_⟩⟩, ?_⟩
  · rw [hs k hk h1]
    unfold Zb; dsimp only
    unfold upd; split
    · rename_i e; simp [e]
    · rename_i e; simp [e]
  · unfold Zb; dsimp only
    rw [wb _ _ (by simp)]
  · have hk' := hk
    unfold Zb at hk'; dsimp only at hk'
    by_cases e : k = (2, 0)
    · rw [e]; exact y2
    · rw [wb _ _ e] at hk'; exact absurd rfl hk'
  · refine ⟨fun i hi => ?_, fun i hi _ => rfl, fun k hk h1 h2 h => ?_, fun k hk h1 h => ?_, fun k hk h => absurd (hw k hk) h, fun a ha => (by cases ha), fun k q hk hq h => absurd (hw k hk) h, List.nodup_nil, fun a ha => (by cases ha), fun k hk h => absurd (hw k hk) h, fun a => ?_, fun h => absurd rfl h, fun i hi j hj hle => QY j, rfl, rfl, by decide, by decide, by decide, by decide⟩
    · exact ⟨fun h => (by cases h), fun h => h.elim (fun h => by cases h) (fun h => absurd rfl h)⟩
    · rcases h with h | h
      · exact absurd (hw k hk) h
      · exact absurd (by rw [(hs k hk h1).1 h]) h2
    · by_cases h2 : k.1 = 2
      · rcases wL hk with ⟨i, hi, rfl⟩ | rfl | rfl | rfl | ⟨j, hj, rfl⟩
        · exact absurd rfl h1
        · exact .inr (ZX rfl)
        · exact absurd h2 (by decide)
        · exact absurd h2 (by decide)
        · exact absurd h2 (by simp)
      · obtain ⟨i, hi, hh, -⟩ := h h2
        cases hh
    · constructor
      · intro h; exact absurd rfl h
      · rintro (h | ⟨k, hk, e, h0⟩)
        · cases h
        · rw [hw k hk] at e; exact absurd e.symm h0
end
end Go.Proofs.YtjikpomndbkfgaaGreatDoor
namespace Go.Sx
open Go
section
variable {P : Program} {N : Nat} {w0 : World} {E : Env} {L : Res}
theorem run_equalIn_bool {w : World} (n : Nat) (t : TypeId) (p q : Bool) (h : P.underlying t = some .bool) :
    (Op.equalIn (n + 1) t (.bool p) (.bool q)).run P w = .ok (p == q) w := by
  simp [Op.equalIn, qz h]
theorem run_eql_bool {w : World} (t : TypeId) (p q : Bool) (h : P.underlying t = some .bool) :
    (binOp .eql t (.bool p) (.bool q)).run P w = .ok (.bool (p == q)) w := by
  simp only [binOp]
  simp [show Op.equal t (.bool p) (.bool q) = Op.equalIn (9999 + 1) t (.bool p) (.bool q) from rfl, run_equalIn_bool 9999 t p q h]
theorem op_eqlB {x y : Operand} {t yt ty : TypeId} {p q : Bool} (hx : opv E x = some (.bool p)) (hy : opv E y = some (.bool q)) (h : P.underlying t = some .bool) : Op1 P N w0 E L (.binOp .eql t x y yt) ty (.bool (p == q)) L :=
  .of_run fun o a w h1 _ h3 h4 => ⟨w, by
    have hg : (eqGuard .eql t x y (.bool p) (.bool q)).run P w = .ok () w := rfl
    rw [execOp, h1]
    simp only [Sem.run_bind, h3.eval hx, h3.eval hy, hg, Result.andThen_ok, run_eql_bool t p q h]
    rfl, h4⟩
end
end Go.Sx
namespace Go.Proofs.YtjikpomndbkfgaaGreatDoor
open Go Go.Sx Go.Nd
set_option maxRecDepth 10000
section
variable {w0 : World} {L F : Res} {ba bl : Nat}
theorem in2 {G I : qV} {L : Res} (h1 : ∀ x, x ∈ G → x ∈ L.flatten) (h2 : ∀ x, x ∈ I → x ∈ L.flatten) : ∀ x, x ∈ ([G, I] : Res).flatten → x ∈ L.flatten := by
  intro x hx
  simp only [List.flatten_cons, List.flatten_nil, List.append_nil, List.mem_append] at hx
  exact hx.elim (h1 x) (h2 x)
def XS (a m : Int) : Int := if a < 0 ∨ m < 0 then 1 else 0
def ZW (W : RS) (a m : Int) : List Int := if a < 0 ∨ m < 0 then [] else Z8 W a m
theorem readB_len (W : RS) (a m : Int) (hm : m ≤ 200000) : (ZW W a m).length ≤ 200000 := by
  unfold ZW; split
  · simp
  · unfold Z8; rw [List.length_map, List.length_range]; omega
theorem lread_ok (p : Nat) (n : NS) (W : RS) (Cn Dc : qV) (hn : NodeC p n Cn) (a m : Int) (rv : Value) (D : Int → Option Sec) {nx : Int} (hr : Ks rv Dc D) (h : Cpl n W) (hI : Inv W D nx) (ha : a ≤ 9223372036854775807) (hm : m ≤ 9223372036854775807) :
    FnT Tryz.prog w0 9 #[.pointer (some ⟨p, 0, none⟩), .int .i64 a, .int .i64 m, rv] (Cn :: Dc :: F) (fun v L' => ∃ u C2, v = .tuple #[u, .int .i64 (XS a m)] ∧ SlC 5 1 u (ZW W a m).length (u8s (ZW W a m)) C2 ∧ L' = C2 :: Cn :: Dc :: F) := by
  by_cases hb : a < 0 ∨ m < 0
  · unfold XS ZW
    rw [if_pos hb, if_pos hb]
    exact ((read_bad_ok p a m rv hb).post fun v L' ⟨h1, h2⟩ => ⟨_, ⟨.slice none 0 0, [], h1, SlC.nil _ _, rfl⟩, by rw [h2]; exact wZ (by simp)⟩)
  · unfold XS ZW
    rw [if_neg hb, if_neg hb]
    have hsz : 0 ≤ n.size ∧ n.size ≤ 136192 := by rw [h.size]; exact hI.size
    refine (read_node_ok p n Cn Dc hn a m rv D hr hsz ⟨by omega, ha⟩ ⟨by omega, hm⟩).mono fun v L' ⟨u2, C2, h1, h2⟩ => ?_
    rw [read_cpl h hI (by omega) (by omega)] at h2
    exact ⟨u2, C2, h2.1, h2.2, h1⟩
theorem lrread_ok (W : RS) (v : List Value) (C : qV) (hw : RefC ba bl W v C) (a m : Int) (ha : -9223372036854775808 ≤ a ∧ a ≤ 9223372036854775807) (hm : -9223372036854775808 ≤ m ∧ m ≤ 9223372036854775807) (hs : 0 ≤ W.size ∧ W.size ≤ 136192) :
    FnT Tryz.prog w0 29 #[.agg v.toArray, .int .i64 a, .int .i64 m] (C :: F) (fun v L' => ∃ u C2, v = .tuple #[u, .int .i64 (XS a m)] ∧ SlC 5 1 u (ZW W a m).length (u8s (ZW W a m)) C2 ∧ L' = C2 :: C :: F) := by
  refine (rread_ok W v C hw a m ha hs.2).mono fun v L' ⟨C', h1, h2⟩ => ?_
  unfold XS ZW
  by_cases hb : a < 0 ∨ m < 0
  · rw [if_pos hb] at h1; rw [if_pos hb, if_pos hb]
    obtain ⟨h1, rfl⟩ := h1
    exact ⟨_, [], h1, SlC.nil _ _, h2⟩
  · rw [if_neg hb] at h1; rw [if_neg hb, if_neg hb]
    obtain ⟨u, h1, h3⟩ := h1
    exact ⟨u, C', h1, h3, h2⟩
theorem ldo_ok (H : jL w0) (HP : QA) (x p md : Nat) (v : List Value) (nx : Int) (dn : Bool) (hdn : dn = false) (od : Obj) (n : NS) (W : RS) (D : Int → Option Sec) (Cn C G I : qV) (m : Nat) (a : ZR)
    (hn : NodeC p n Cn) (hw : RefC ba bl W v C) (hD : MapF (Value.int .i64) jE D od) (hg : kj G) (hP : StP nx n W D m) (hm : m ≤ 50) (ha : Vf [G, I] a) :
    FnT Tryz.prog w0 8 #[.pointer (some ⟨x, 0, none⟩), .agg (Xx a).toArray] (StD x p v md nx dn od :: Cn :: C :: G :: I :: F) (fun r L' => r = .bool true ∧ StG x (m + 1) (G :: I :: F) L') := by
  have hv := hw.len
  have hgl := hP.gone hm
  have hI := hP.inv
  have hsz := hI.size
  have hnsz : 0 ≤ n.size ∧ n.size ≤ 136192 := by rw [hP.cpl.size]; exact hsz
  have hnxb := hP.nxb
  have hrd : Ks (.func (.func 11) #[.pointer (some ⟨x, 0, none⟩)] #[]) (StD x p v md nx dn od) D := by
    have := Z7 x p md v nx dn od D hv hD
    rw [hdn, Xf] at this; rw [hdn]; exact this
  rw [show Xx a = [.int .i64 a.kind, .int .i64 a.at_, .int .i64 a.n, .slice a.q a.bs.length a.c] from rfl]
  have hat := ha.at_
  have hnn := ha.n
  refine qi (E0 := [(0, _), (1, _)]) (N := 232) Tryz.func8 rfl rfl rfl rfl ?_
  refine qO <| qG (wq rfl) ?_
  rintro t3 _ ⟨b3, rfl, rfl⟩
  refine qE rfl <| qm <| q9 (qB rfl) <| q9 (qI rfl rfl) <| qE rfl <| qF <| zY (Γ := {pΓ : (Option Addr) × (Nat) × (List Int) // (fun (q : Option Addr) (c : Nat) (bs : List Int) => IsB bs ∧ bs.length ≤ 700 ∧ bs.length ≤ c ∧ (q = none → bs.length = 0) ∧ (∀ w0, Reads w0 [G, I] (.slice q bs.length c) bs.length 1 (u8s bs))) pΓ.1 pΓ.2.1 pΓ.2.2}) (fun g => (fun (q : Option Addr) (c : Nat) (bs : List Int) => [(0, .pointer (some ⟨x, 0, none⟩)), (3, .pointer (some ⟨b3, 0, none⟩)), (5, .slice q bs.length c)]) g.1.1 g.1.2.1 g.1.2.2) (fun g => (fun (q : Option Addr) (c : Nat) (bs : List Int) => [(b3, .cells [.int .i64 a.kind, .int .i64 a.at_, .int .i64 a.n, .slice a.q a.bs.length a.c].toArray 25 (0, 0))] :: StD x p v md nx dn od :: Cn :: C :: G :: I :: F) g.1.1 g.1.2.1 g.1.2.2) ?_ ?_
  ·
   refine qO <| qA rfl <| q9 (w8 rfl) <| q9 (y8 rfl rfl) <| qF <| qM rfl (fun hc2 => ?_) (fun hc2 => ?_)
   ·
    refine qK <| qA rfl <| q9 (kq (kl := .i64) (kh := .i64) (l := 0) (h := 700) rfl rfl rfl (by omega) (by have := ha.len; omega) ha.len) ?_
    refine qE rfl <| qT ?_
    rw [show (700 - 0 : Nat) = (a.bs.take 700).length from by rw [List.length_take]; omega]
    refine qW ⟨(if a.c = 0 then a.q else a.q.map (·.add (0 * 1)), a.c - 0, a.bs.take 700), ?_⟩ ?_
    ·
     try dsimp only
     refine ⟨Xe ha.bs 700, by rw [List.length_take]; omega, by have := ha.len; rw [List.length_take]; omega, fun e => ?_, fun w0 => ?_⟩
     · exfalso; have hqq := ha.q; split at e
       · have := hqq e; omega
       · cases hq : a.q with
         | none => have := hqq hq; omega
         | some z => rw [hq] at e; cases e
     · have h7 : (a.bs.take 700).length = 700 := by rw [List.length_take]; omega
       rw [h7, ← xL]; exact (ha.reads w0).cutTo (t := 700) (by omega) (by omega)
    · (try dsimp only); exact qX _
   ·
    refine qZ <| qW ⟨(a.q, a.c, a.bs), ?_⟩ ?_
    · (try dsimp only); exact ⟨ha.bs, by omega, ha.len, ha.q, ha.reads⟩
    · (try dsimp only); exact qX _
  rintro ⟨⟨q, c, bs⟩, hcut⟩
  replace hcut : IsB bs ∧ bs.length ≤ 700 ∧ bs.length ≤ c ∧ (q = none → bs.length = 0) ∧ (∀ w0, Reads w0 [G, I] (.slice q bs.length c) bs.length 1 (u8s bs)) := hcut
  obtain ⟨hbs, hb7, hbc, hbq, hbr⟩ := hcut
  show Tr _ _ _ ([(0, .pointer (some ⟨x, 0, none⟩)), (3, .pointer (some ⟨b3, 0, none⟩)), (5, .slice q bs.length c)]) ([(b3, .cells [.int .i64 a.kind, .int .i64 a.at_, .int .i64 a.n, .slice a.q a.bs.length a.c].toArray 25 (0, 0))] :: StD x p v md nx dn od :: Cn :: C :: G :: I :: F) _ _
  refine zY (Γ := {pΓ : (NS) × (RS) × (List Value) × (qV) × (qV) // (fun (n1 : NS) (W1 : RS) (l1 : List Value) (Cn1 : qV) (C1 : qV) => NodeC p n1 Cn1 ∧ RefC ba bl W1 l1 C1 ∧ Cpl n1 W1 ∧ Inv W1 D nx) pΓ.1 pΓ.2.1 pΓ.2.2.1 pΓ.2.2.2.1 pΓ.2.2.2.2}) (fun g => (fun (n1 : NS) (W1 : RS) (l1 : List Value) (Cn1 : qV) (C1 : qV) => []) g.1.1 g.1.2.1 g.1.2.2.1 g.1.2.2.2.1 g.1.2.2.2.2) (fun g => (fun (n1 : NS) (W1 : RS) (l1 : List Value) (Cn1 : qV) (C1 : qV) => StD x p l1 md nx dn od :: Cn1 :: C1 :: G :: I :: F) g.1.1 g.1.2.1 g.1.2.2.1 g.1.2.2.2.1 g.1.2.2.2.2) ?_ ?_
  ·
   refine qO <| q9 (qB rfl) <| q9 (qI rfl rfl) <| qF <| qg <| qO <| q9 (wn rfl rfl) <| qE rfl <| qF <| qM rfl (fun hc5 => ?_) (fun hc5 => ?_)
   ·
    refine qN <| wT wB <| wD [(34, .pure _), (35, .pure _), (36, .pure _), (37, .pure _), (38, .pure _), (39, .pure _), (40, .pure _), (41, .pure _), (42, .pure _)] (by kernel_rfl) rfl rfl rfl wm (qC rfl (fun X => qP rfl) <| qC rfl (fun X => qQ rfl) <| qC rfl (fun X => qB rfl) <| qC rfl (fun X => qI rfl xb) <| qC rfl (fun X => qB rfl) <| qC rfl (fun X => qI rfl rfl) <| qC rfl (fun X => qP rfl) <| qC rfl (fun X => qP rfl) <| qC rfl (fun X => z6 rfl rfl) <| ParH.nil rfl) ?_
    dsimp only [ze, List.drop, List.length]
    refine z8 (by kernel_rfl) (w5 rfl (kG (Cn) (StD x p v md nx dn od) (Z4 p n Cn (StD x p v md nx dn od) hn a.at_ q c bs _ D hrd hnsz hat hbs (by omega) hbc hbq (fun A => (hbr w0).mono (in2 (fun z hz => by simp [hz]) (fun z hz => by simp [hz])))))) ?_
    rintro t43 _ ⟨Cn', rfl, hn', rfl⟩
    refine wE (by kernel_rfl) (zS rfl) ?_
    refine wI <| qJ <| zY (Γ := {pΓ : (Nat) × (List Value) × (qV) // (fun (y : Nat) (l1 : List Value) (C1 : qV) => RefC ba bl (kU W a.at_ bs).2 l1 C1) pΓ.1 pΓ.2.1 pΓ.2.2}) (fun g => (fun (y : Nat) (l1 : List Value) (C1 : qV) => [(0, .pointer (some ⟨x, 0, none⟩)), (6, .int .i64 (ju n D a.at_ bs).1), (7, .pointer (some ⟨y, 0, none⟩)), (8, .int .i64 (kU W a.at_ bs).1)]) g.1.1 g.1.2.1 g.1.2.2) (fun g => (fun (y : Nat) (l1 : List Value) (C1 : qV) => [(y, .cells l1.toArray 41 (0, 0))] :: StD x p v md nx dn od :: Cn' :: C1 :: G :: I :: F) g.1.1 g.1.2.1 g.1.2.2) ?_ ?_
    ·
     refine yb wB (show TrS _ _ _ _ [false, false, false, false, false, false, false, false, false, false, false, false, false, false] _ _ _ from ?_)
     refine qH 0 rfl rfl rfl (wO rfl) <| qH 1 rfl rfl rfl (y4 rfl) <| qH 2 rfl rfl rfl (wo rfl) <| qH 4 rfl rfl rfl (wo rfl) <| qH 6 rfl rfl rfl (wO rfl) <| xu (i := 3) (j := 5) (k := 11) (by kernel_rfl) rfl ?_ ?_ ?_
     ·
      refine qd rfl rfl rfl (zp (r := v) rfl (jU hv) hv) <| wv (i := 5) (j := 11) (by kernel_rfl) rfl ?_ ?_
      ·
       refine qd rfl rfl rfl (qI rfl rfl) <| wv (i := 7) (j := 11) (by kernel_rfl) rfl ?_ ?_
       ·
        refine w7 rfl rfl rfl (w5 rfl (we (C) (jm W v C hw a.at_ q c bs hat hbs (by omega) ((hbr w0).mono (in2 (fun z hz => by simp [hz]) (fun z hz => by simp [hz])))))) ?_
        rintro t52 _ ⟨l', C', rfl, hw', rfl⟩
        refine qH 8 rfl rfl rfl (wO rfl) <| qH 9 rfl rfl rfl (qk rfl rfl) <| qH 10 rfl rfl rfl (qk rfl rfl) <| qS 11 rfl <| w7 rfl rfl rfl (qj) ?_
        rintro t7 _ ⟨b7, rfl, rfl⟩
        refine qS 12 rfl <| wR rfl rfl rfl (qo (l := node0V) rfl rfl rfl hw'.len hw'.one) <| qH 13 rfl rfl rfl (wP rfl) <| wF <| qW ⟨(b7, l', C'), ?_⟩ ?_
        · (try dsimp only); exact hw'
        · (try dsimp only); exact qX _
       ·
        refine w7 rfl rfl rfl (qj) ?_
        rintro t7 _ ⟨b7, rfl, rfl⟩
        refine qS 7 rfl <| w7 rfl rfl rfl (w5 rfl (we (C) (jm W v C hw a.at_ q c bs hat hbs (by omega) ((hbr w0).mono (in2 (fun z hz => by simp [hz]) (fun z hz => by simp [hz])))))) ?_
        rintro t52 _ ⟨l', C', rfl, hw', rfl⟩
        refine qH 8 rfl rfl rfl (wO rfl) <| qH 9 rfl rfl rfl (qk rfl rfl) <| qH 10 rfl rfl rfl (qk rfl rfl) <| qS 12 rfl <| wR rfl rfl rfl (qo (l := node0V) rfl rfl rfl hw'.len hw'.one) <| qH 13 rfl rfl rfl (wP rfl) <| wF <| qW ⟨(b7, l', C'), ?_⟩ ?_
        · (try dsimp only); exact hw'
        · (try dsimp only); exact qX _
      ·
       refine w7 rfl rfl rfl (qj) ?_
       rintro t7 _ ⟨b7, rfl, rfl⟩
       refine qS 5 rfl <| qd rfl rfl rfl (qI rfl rfl) <| qS 7 rfl <| w7 rfl rfl rfl (w5 rfl (we (C) (jm W v C hw a.at_ q c bs hat hbs (by omega) ((hbr w0).mono (in2 (fun z hz => by simp [hz]) (fun z hz => by simp [hz])))))) ?_
       rintro t52 _ ⟨l', C', rfl, hw', rfl⟩
       refine qH 8 rfl rfl rfl (wO rfl) <| qH 9 rfl rfl rfl (qk rfl rfl) <| qH 10 rfl rfl rfl (qk rfl rfl) <| qS 12 rfl <| wR rfl rfl rfl (qo (l := node0V) rfl rfl rfl hw'.len hw'.one) <| qH 13 rfl rfl rfl (wP rfl) <| wF <| qW ⟨(b7, l', C'), ?_⟩ ?_
       · (try dsimp only); exact hw'
       · (try dsimp only); exact qX _
     ·
      refine qd rfl rfl rfl (qI rfl rfl) <| wv (i := 3) (j := 11) (by kernel_rfl) rfl ?_ ?_
      ·
       refine qd rfl rfl rfl (zp (r := v) rfl (jU hv) hv) <| wv (i := 7) (j := 11) (by kernel_rfl) rfl ?_ ?_
       ·
        refine w7 rfl rfl rfl (w5 rfl (we (C) (jm W v C hw a.at_ q c bs hat hbs (by omega) ((hbr w0).mono (in2 (fun z hz => by simp [hz]) (fun z hz => by simp [hz])))))) ?_
        rintro t52 _ ⟨l', C', rfl, hw', rfl⟩
        refine qH 8 rfl rfl rfl (wO rfl) <| qH 9 rfl rfl rfl (qk rfl rfl) <| qH 10 rfl rfl rfl (qk rfl rfl) <| qS 11 rfl <| w7 rfl rfl rfl (qj) ?_
        rintro t7 _ ⟨b7, rfl, rfl⟩
        refine qS 12 rfl <| wR rfl rfl rfl (qo (l := node0V) rfl rfl rfl hw'.len hw'.one) <| qH 13 rfl rfl rfl (wP rfl) <| wF <| qW ⟨(b7, l', C'), ?_⟩ ?_
        · (try dsimp only); exact hw'
        · (try dsimp only); exact qX _
       ·
        refine w7 rfl rfl rfl (qj) ?_
        rintro t7 _ ⟨b7, rfl, rfl⟩
        refine qS 7 rfl <| w7 rfl rfl rfl (w5 rfl (we (C) (jm W v C hw a.at_ q c bs hat hbs (by omega) ((hbr w0).mono (in2 (fun z hz => by simp [hz]) (fun z hz => by simp [hz])))))) ?_
        rintro t52 _ ⟨l', C', rfl, hw', rfl⟩
        refine qH 8 rfl rfl rfl (wO rfl) <| qH 9 rfl rfl rfl (qk rfl rfl) <| qH 10 rfl rfl rfl (qk rfl rfl) <| qS 12 rfl <| wR rfl rfl rfl (qo (l := node0V) rfl rfl rfl hw'.len hw'.one) <| qH 13 rfl rfl rfl (wP rfl) <| wF <| qW ⟨(b7, l', C'), ?_⟩ ?_
        · (try dsimp only); exact hw'
        · (try dsimp only); exact qX _
      ·
       refine w7 rfl rfl rfl (qj) ?_
       rintro t7 _ ⟨b7, rfl, rfl⟩
       refine qS 3 rfl <| qd rfl rfl rfl (zp (r := v) rfl (jU hv) hv) <| qS 7 rfl <| w7 rfl rfl rfl (w5 rfl (we (C) (jm W v C hw a.at_ q c bs hat hbs (by omega) ((hbr w0).mono (in2 (fun z hz => by simp [hz]) (fun z hz => by simp [hz])))))) ?_
       rintro t52 _ ⟨l', C', rfl, hw', rfl⟩
       refine qH 8 rfl rfl rfl (wO rfl) <| qH 9 rfl rfl rfl (qk rfl rfl) <| qH 10 rfl rfl rfl (qk rfl rfl) <| qS 12 rfl <| wR rfl rfl rfl (qo (l := node0V) rfl rfl rfl hw'.len hw'.one) <| qH 13 rfl rfl rfl (wP rfl) <| wF <| qW ⟨(b7, l', C'), ?_⟩ ?_
       · (try dsimp only); exact hw'
       · (try dsimp only); exact qX _
     ·
      refine w7 rfl rfl rfl (qj) ?_
      rintro t7 _ ⟨b7, rfl, rfl⟩
      refine wv (i := 3) (j := 5) (by kernel_rfl) rfl ?_ ?_
      ·
       refine qd rfl rfl rfl (zp (r := v) rfl (jU hv) hv) <| qS 5 rfl <| qd rfl rfl rfl (qI rfl rfl) <| qS 7 rfl <| w7 rfl rfl rfl (w5 rfl (we (C) (jm W v C hw a.at_ q c bs hat hbs (by omega) ((hbr w0).mono (in2 (fun z hz => by simp [hz]) (fun z hz => by simp [hz])))))) ?_
       rintro t52 _ ⟨l', C', rfl, hw', rfl⟩
       refine qH 8 rfl rfl rfl (wO rfl) <| qH 9 rfl rfl rfl (qk rfl rfl) <| qH 10 rfl rfl rfl (qk rfl rfl) <| qS 12 rfl <| wR rfl rfl rfl (qo (l := node0V) rfl rfl rfl hw'.len hw'.one) <| qH 13 rfl rfl rfl (wP rfl) <| wF <| qW ⟨(b7, l', C'), ?_⟩ ?_
       · (try dsimp only); exact hw'
       · (try dsimp only); exact qX _
      ·
       refine qd rfl rfl rfl (qI rfl rfl) <| qS 3 rfl <| qd rfl rfl rfl (zp (r := v) rfl (jU hv) hv) <| qS 7 rfl <| w7 rfl rfl rfl (w5 rfl (we (C) (jm W v C hw a.at_ q c bs hat hbs (by omega) ((hbr w0).mono (in2 (fun z hz => by simp [hz]) (fun z hz => by simp [hz])))))) ?_
       rintro t52 _ ⟨l', C', rfl, hw', rfl⟩
       refine qH 8 rfl rfl rfl (wO rfl) <| qH 9 rfl rfl rfl (qk rfl rfl) <| qH 10 rfl rfl rfl (qk rfl rfl) <| qS 12 rfl <| wR rfl rfl rfl (qo (l := node0V) rfl rfl rfl hw'.len hw'.one) <| qH 13 rfl rfl rfl (wP rfl) <| wF <| qW ⟨(b7, l', C'), ?_⟩ ?_
       · (try dsimp only); exact hw'
       · (try dsimp only); exact qX _
    rintro ⟨⟨y, l1, C1⟩, hcut⟩
    replace hcut : RefC ba bl (kU W a.at_ bs).2 l1 C1 := hcut
    have hw1 := hcut
    show Tr _ _ _ ([(0, .pointer (some ⟨x, 0, none⟩)), (6, .int .i64 (ju n D a.at_ bs).1), (7, .pointer (some ⟨y, 0, none⟩)), (8, .int .i64 (kU W a.at_ bs).1)]) ([(y, .cells l1.toArray 41 (0, 0))] :: StD x p v md nx dn od :: Cn' :: C1 :: G :: I :: F) _ _
    refine qO <| qA rfl <| q9 (wQ rfl hw1.len) <| q9 (qQ rfl) <| q9 (qB rfl) <| qR (yw (r := stV p l1 md nx dn) rfl rfl (Qx hv hw1.len) (by rw [jw hv, hw1.len]; decide) hw1.len hw1.one) ?_
    refine qm <| qA rfl <| qA rfl <| q9 (wn rfl rfl) <| qE rfl <| qF <| qy <| wH <| k3 <| wC (StD x p l1 md nx dn od :: Cn' :: C1 :: G :: I :: F) (.inl rfl) rfl (qu rfl) ?_
    have hc := Kz hP.cpl hI a.at_ bs hbs
    exact ⟨congrArg Value.bool (decide_eq_true hc.1), p, md, l1, nx, od, _, _, D, Cn', C1, ba, bl, ⟨hc.2.1, hc.2.2, by push_cast; omega⟩, hn', hw1, hD, by rw [hdn]⟩
   ·
    refine qO <| q9 (wn rfl rfl) <| qE rfl <| qF <| qM rfl (fun hc10 => ?_) (fun hc10 => ?_)
    ·
     refine qN <| wT wB <| wD [(64, .pure _), (65, .pure _), (66, .pure _), (67, .pure _), (68, .pure _), (69, .pure _), (70, .pure _), (71, .pure _)] (by kernel_rfl) rfl rfl rfl wm (qC rfl (fun X => qP rfl) <| qC rfl (fun X => qQ rfl) <| qC rfl (fun X => qB rfl) <| qC rfl (fun X => qI rfl xb) <| qC rfl (fun X => qB rfl) <| qC rfl (fun X => qI rfl rfl) <| qC rfl (fun X => qP rfl) <| qC rfl (fun X => z6 rfl rfl) <| ParH.nil rfl) ?_
     dsimp only [ze, List.drop, List.length]
     refine z8 (by kernel_rfl) (w5 rfl (jD (Cn) (StD x p v md nx dn od) (G) (truncate_ok H p n Cn (StD x p v md nx dn od) G hn hg hP.cpl.ok a.n _ D hrd hnn (by omega)))) ?_
     rintro t72 _ ⟨Cn', rfl, hn', rfl⟩
     refine wE (by kernel_rfl) (zS rfl) ?_
     refine wI <| qJ <| zY (Γ := {pΓ : (Nat) × (List Value) × (qV) // (fun (y : Nat) (l1 : List Value) (C1 : qV) => RefC ba bl (jZ W a.n).2 l1 C1) pΓ.1 pΓ.2.1 pΓ.2.2}) (fun g => (fun (y : Nat) (l1 : List Value) (C1 : qV) => [(0, .pointer (some ⟨x, 0, none⟩)), (9, .int .i64 (j8 n D a.n).1), (10, .pointer (some ⟨y, 0, none⟩)), (11, .int .i64 (jZ W a.n).1)]) g.1.1 g.1.2.1 g.1.2.2) (fun g => (fun (y : Nat) (l1 : List Value) (C1 : qV) => [(y, .cells l1.toArray 41 (0, 0))] :: StD x p v md nx dn od :: Cn' :: C1 :: G :: I :: F) g.1.1 g.1.2.1 g.1.2.2) ?_ ?_
     ·
      refine yb wB (show TrS _ _ _ _ [false, false, false, false, false, false, false, false, false, false, false, false, false] _ _ _ from ?_)
      refine qH 0 rfl rfl rfl (wO rfl) <| qH 1 rfl rfl rfl (y4 rfl) <| qH 2 rfl rfl rfl (wo rfl) <| qH 4 rfl rfl rfl (wo rfl) <| xu (i := 3) (j := 5) (k := 10) (by kernel_rfl) rfl ?_ ?_ ?_
      ·
       refine qd rfl rfl rfl (zp (r := v) rfl (jU hv) hv) <| wv (i := 5) (j := 10) (by kernel_rfl) rfl ?_ ?_
       ·
        refine qd rfl rfl rfl (qI rfl rfl) <| wv (i := 6) (j := 10) (by kernel_rfl) rfl ?_ ?_
        ·
         refine w7 rfl rfl rfl (w5 rfl (we (C) (kN W v C hw a.n hnn (by omega) hsz.2))) ?_
         rintro t80 _ ⟨l', C', rfl, hw', rfl⟩
         refine qH 7 rfl rfl rfl (wO rfl) <| qH 8 rfl rfl rfl (qk rfl rfl) <| qH 9 rfl rfl rfl (qk rfl rfl) <| qS 10 rfl <| w7 rfl rfl rfl (qj) ?_
         rintro t10 _ ⟨b10, rfl, rfl⟩
         refine qS 11 rfl <| wR rfl rfl rfl (qo (l := node0V) rfl rfl rfl hw'.len hw'.one) <| qH 12 rfl rfl rfl (wP rfl) <| wF <| qW ⟨(b10, l', C'), ?_⟩ ?_
         · (try dsimp only); exact hw'
         · (try dsimp only); exact qX _
        ·
         refine w7 rfl rfl rfl (qj) ?_
         rintro t10 _ ⟨b10, rfl, rfl⟩
         refine qS 6 rfl <| w7 rfl rfl rfl (w5 rfl (we (C) (kN W v C hw a.n hnn (by omega) hsz.2))) ?_
         rintro t80 _ ⟨l', C', rfl, hw', rfl⟩
         refine qH 7 rfl rfl rfl (wO rfl) <| qH 8 rfl rfl rfl (qk rfl rfl) <| qH 9 rfl rfl rfl (qk rfl rfl) <| qS 11 rfl <| wR rfl rfl rfl (qo (l := node0V) rfl rfl rfl hw'.len hw'.one) <| qH 12 rfl rfl rfl (wP rfl) <| wF <| qW ⟨(b10, l', C'), ?_⟩ ?_
         · (try dsimp only); exact hw'
         · (try dsimp only); exact qX _
       ·
        refine w7 rfl rfl rfl (qj) ?_
        rintro t10 _ ⟨b10, rfl, rfl⟩
        refine qS 5 rfl <| qd rfl rfl rfl (qI rfl rfl) <| qS 6 rfl <| w7 rfl rfl rfl (w5 rfl (we (C) (kN W v C hw a.n hnn (by omega) hsz.2))) ?_
        rintro t80 _ ⟨l', C', rfl, hw', rfl⟩
        refine qH 7 rfl rfl rfl (wO rfl) <| qH 8 rfl rfl rfl (qk rfl rfl) <| qH 9 rfl rfl rfl (qk rfl rfl) <| qS 11 rfl <| wR rfl rfl rfl (qo (l := node0V) rfl rfl rfl hw'.len hw'.one) <| qH 12 rfl rfl rfl (wP rfl) <| wF <| qW ⟨(b10, l', C'), ?_⟩ ?_
        · (try dsimp only); exact hw'
        · (try dsimp only); exact qX _
      ·
       refine qd rfl rfl rfl (qI rfl rfl) <| wv (i := 3) (j := 10) (by kernel_rfl) rfl ?_ ?_
       ·
        refine qd rfl rfl rfl (zp (r := v) rfl (jU hv) hv) <| wv (i := 6) (j := 10) (by kernel_rfl) rfl ?_ ?_
        ·
         refine w7 rfl rfl rfl (w5 rfl (we (C) (kN W v C hw a.n hnn (by omega) hsz.2))) ?_
         rintro t80 _ ⟨l', C', rfl, hw', rfl⟩
         refine qH 7 rfl rfl rfl (wO rfl) <| qH 8 rfl rfl rfl (qk rfl rfl) <| qH 9 rfl rfl rfl (qk rfl rfl) <| qS 10 rfl <| w7 rfl rfl rfl (qj) ?_
         rintro t10 _ ⟨b10, rfl, rfl⟩
         refine qS 11 rfl <| wR rfl rfl rfl (qo (l := node0V) rfl rfl rfl hw'.len hw'.one) <| qH 12 rfl rfl rfl (wP rfl) <| wF <| qW ⟨(b10, l', C'), ?_⟩ ?_
         · (try dsimp only); exact hw'
         · (try dsimp only); exact qX _
        ·
         refine w7 rfl rfl rfl (qj) ?_
         rintro t10 _ ⟨b10, rfl, rfl⟩
         refine qS 6 rfl <| w7 rfl rfl rfl (w5 rfl (we (C) (kN W v C hw a.n hnn (by omega) hsz.2))) ?_
         rintro t80 _ ⟨l', C', rfl, hw', rfl⟩
         refine qH 7 rfl rfl rfl (wO rfl) <| qH 8 rfl rfl rfl (qk rfl rfl) <| qH 9 rfl rfl rfl (qk rfl rfl) <| qS 11 rfl <| wR rfl rfl rfl (qo (l := node0V) rfl rfl rfl hw'.len hw'.one) <| qH 12 rfl rfl rfl (wP rfl) <| wF <| qW ⟨(b10, l', C'), ?_⟩ ?_
         · (try dsimp only); exact hw'
         · (try dsimp only); exact qX _
       ·
        refine w7 rfl rfl rfl (qj) ?_
        rintro t10 _ ⟨b10, rfl, rfl⟩
        refine qS 3 rfl <| qd rfl rfl rfl (zp (r := v) rfl (jU hv) hv) <| qS 6 rfl <| w7 rfl rfl rfl (w5 rfl (we (C) (kN W v C hw a.n hnn (by omega) hsz.2))) ?_
        rintro t80 _ ⟨l', C', rfl, hw', rfl⟩
        refine qH 7 rfl rfl rfl (wO rfl) <| qH 8 rfl rfl rfl (qk rfl rfl) <| qH 9 rfl rfl rfl (qk rfl rfl) <| qS 11 rfl <| wR rfl rfl rfl (qo (l := node0V) rfl rfl rfl hw'.len hw'.one) <| qH 12 rfl rfl rfl (wP rfl) <| wF <| qW ⟨(b10, l', C'), ?_⟩ ?_
        · (try dsimp only); exact hw'
        · (try dsimp only); exact qX _
      ·
       refine w7 rfl rfl rfl (qj) ?_
       rintro t10 _ ⟨b10, rfl, rfl⟩
       refine wv (i := 3) (j := 5) (by kernel_rfl) rfl ?_ ?_
       ·
        refine qd rfl rfl rfl (zp (r := v) rfl (jU hv) hv) <| qS 5 rfl <| qd rfl rfl rfl (qI rfl rfl) <| qS 6 rfl <| w7 rfl rfl rfl (w5 rfl (we (C) (kN W v C hw a.n hnn (by omega) hsz.2))) ?_
        rintro t80 _ ⟨l', C', rfl, hw', rfl⟩
        refine qH 7 rfl rfl rfl (wO rfl) <| qH 8 rfl rfl rfl (qk rfl rfl) <| qH 9 rfl rfl rfl (qk rfl rfl) <| qS 11 rfl <| wR rfl rfl rfl (qo (l := node0V) rfl rfl rfl hw'.len hw'.one) <| qH 12 rfl rfl rfl (wP rfl) <| wF <| qW ⟨(b10, l', C'), ?_⟩ ?_
        · (try dsimp only); exact hw'
        · (try dsimp only); exact qX _
       ·
        refine qd rfl rfl rfl (qI rfl rfl) <| qS 3 rfl <| qd rfl rfl rfl (zp (r := v) rfl (jU hv) hv) <| qS 6 rfl <| w7 rfl rfl rfl (w5 rfl (we (C) (kN W v C hw a.n hnn (by omega) hsz.2))) ?_
        rintro t80 _ ⟨l', C', rfl, hw', rfl⟩
        refine qH 7 rfl rfl rfl (wO rfl) <| qH 8 rfl rfl rfl (qk rfl rfl) <| qH 9 rfl rfl rfl (qk rfl rfl) <| qS 11 rfl <| wR rfl rfl rfl (qo (l := node0V) rfl rfl rfl hw'.len hw'.one) <| qH 12 rfl rfl rfl (wP rfl) <| wF <| qW ⟨(b10, l', C'), ?_⟩ ?_
        · (try dsimp only); exact hw'
        · (try dsimp only); exact qX _
     rintro ⟨⟨y, l1, C1⟩, hcut⟩
     replace hcut : RefC ba bl (jZ W a.n).2 l1 C1 := hcut
     have hw1 := hcut
     show Tr _ _ _ ([(0, .pointer (some ⟨x, 0, none⟩)), (9, .int .i64 (j8 n D a.n).1), (10, .pointer (some ⟨y, 0, none⟩)), (11, .int .i64 (jZ W a.n).1)]) ([(y, .cells l1.toArray 41 (0, 0))] :: StD x p v md nx dn od :: Cn' :: C1 :: G :: I :: F) _ _
     refine qO <| qA rfl <| q9 (wQ rfl hw1.len) <| q9 (qQ rfl) <| q9 (qB rfl) <| qR (yw (r := stV p l1 md nx dn) rfl rfl (Qx hv hw1.len) (by rw [jw hv, hw1.len]; decide) hw1.len hw1.one) ?_
     refine qm <| qA rfl <| qA rfl <| q9 (wn rfl rfl) <| qE rfl <| qF <| qy <| wH <| k3 <| wC (StD x p l1 md nx dn od :: Cn' :: C1 :: G :: I :: F) (.inl rfl) rfl (qu rfl) ?_
     have hc := trunc_cpl hP.cpl hI a.n
     exact ⟨congrArg Value.bool (decide_eq_true hc.1), p, md, l1, nx, od, _, _, D, Cn', C1, ba, bl, ⟨hc.2.1, hc.2.2, by push_cast; omega⟩, hn', hw1, hD, by rw [hdn]⟩
    ·
     refine qO <| q9 (wn rfl rfl) <| qE rfl <| qF <| qM rfl (fun hc15 => ?_) (fun hc15 => ?_)
     ·
      refine qO <| q9 (qB rfl) <| q9 (qI rfl rfl) <| q9 (KH rfl rfl) <| qE rfl <| qF <| qN <| wT wB <| wD [(96, .pure _), (97, .pure _), (98, .pure _), (99, .pure _), (100, .pure _), (101, .pure _), (102, .pure _), (103, .pure _), (104, .pure _)] (by kernel_rfl) rfl rfl rfl wm (qC rfl (fun X => qP rfl) <| qC rfl (fun X => qQ rfl) <| qC rfl (fun X => qB rfl) <| qC rfl (fun X => qI rfl xb) <| qC rfl (fun X => qB rfl) <| qC rfl (fun X => qI rfl rfl) <| qC rfl (fun X => qP rfl) <| qC rfl (fun X => qP rfl) <| qC rfl (fun X => z6 rfl rfl) <| ParH.nil rfl) ?_
      dsimp only [ze, List.drop, List.length]
      refine z8 (by kernel_rfl) (w5 rfl (kG (Cn) (StD x p v md nx dn od) (lread_ok p n W Cn (StD x p v md nx dn od) hn a.at_ (min a.n 3000) _ D hrd hP.cpl hI (by omega) (by omega)))) ?_
      rintro t105 _ ⟨u1, C1, rfl, hs1, rfl⟩
      refine wE (by kernel_rfl) (qP rfl) ?_
      refine wD [(106, .pure _), (107, .pure _), (13, .pure _)] (by kernel_rfl) rfl rfl rfl wm (qC rfl (fun X => qf rfl rfl) <| qC rfl (fun X => qf rfl rfl) <| qC rfl (fun X => zS rfl) <| ParH.nil rfl) ?_
      dsimp only [ze, List.drop, List.length]
      refine wE (by kernel_rfl) (zS rfl) ?_
      refine wI <| qJ <| qN <| wT wB <| wD [(109, .pure _), (110, .pure _), (111, .pure _), (112, .pure _), (113, .pure _), (114, .pure _), (115, .pure _)] (by kernel_rfl) rfl rfl rfl wm (qC rfl (fun X => qP rfl) <| qC rfl (fun X => qQ rfl) <| qC rfl (fun X => qB rfl) <| qC rfl (fun X => zp (r := v) rfl (jU hv) hv) <| qC rfl (fun X => qB rfl) <| qC rfl (fun X => qI rfl rfl) <| qC rfl (fun X => qP rfl) <| ParH.nil rfl) ?_
      dsimp only [ze, List.drop, List.length]
      refine z8 (by kernel_rfl) (w5 rfl (we (C) (lrread_ok W v C hw a.at_ (min a.n 3000) hat (by omega) hsz))) ?_
      rintro t116 _ ⟨u2, C2, rfl, hs2, rfl⟩
      refine wE (by kernel_rfl) (qP rfl) ?_
      refine wD [(117, .pure _), (118, .pure _), (15, .pure _)] (by kernel_rfl) rfl rfl rfl wm (qC rfl (fun X => qf rfl rfl) <| qC rfl (fun X => qf rfl rfl) <| qC rfl (fun X => zS rfl) <| ParH.nil rfl) ?_
      dsimp only [ze, List.drop, List.length]
      refine wE (by kernel_rfl) (zS rfl) ?_
      refine wI <| qJ <| qO <| qA rfl <| qA rfl <| q9 (wn rfl rfl) <| qA rfl <| qY (s := 122) rfl (fun hg19_3 => ?_) (fun hg19_3 => ?_)
      ·
       refine qD rfl rfl (qP rfl) <| qD rfl rfl (qP rfl) <| qD rfl rfl (wM rfl (k6 (C1) (C2) (equal_ok u1 u2 C1 C2 _ _ hs1 hs2 (by have := readB_len W a.at_ (min a.n 3000) (by omega); omega)))) ?_
       refine q9 (qq rfl rfl) <| qE rfl <| qF <| qy <| wH <| k3 <| wC (StD x p v md nx dn od :: Cn :: C :: G :: I :: F) (.inl rfl) rfl (qu rfl) ?_
       exact ⟨congrArg Value.bool (decide_eq_true rfl), p, md, v, nx, od, n, W, D, Cn, C, ba, bl, hP.up, hn, hw, hD, by rw [hdn]⟩
      · exact absurd rfl hg19_3
     ·
      refine qO <| q9 (wn rfl rfl) <| qE rfl <| qF <| qM rfl (fun hc20 => ?_) (fun hc20 => ?_)
      ·
       refine qN ?_
       have hll := xR W
       have hr : ∀ z ∈ jJ nx (zl W).length, 1 ≤ z ∧ z ≤ 65535 := JX hI.nx (by omega)
       obtain ⟨hcc1, hcc2, hcc3, hcc4⟩ := Kf hP.cpl hI rfl rfl (by omega) hr
       have hci := (Ke hI rfl rfl).1
       refine qK <| qA rfl <| qG (w5 rfl (xp (StD x p v md nx dn od) (Cn) (C) (G) (KR H HP x p md v nx dn od n W D Cn C G (zl W) (jJ nx (zl W).length) rfl rfl hn hw hD hg hP.cpl.ok hP.fl (hP.cpl.parts hI.has) hP.cpl.num hP.cpl.ver hI.nx (by omega) (by omega) (by omega) hr hcc2 (hcc4 hP.cpl.ok hP.fl) hcc3))) ?_
       rintro t130 _ ⟨rfl, v', C', Cn', od', hn', hw', hD', rfl⟩
       refine qE rfl <| qF <| qy <| wH <| k3 <| wC (StD x p v' md (nx + (zl W).length) dn od' :: Cn' :: C' :: G :: I :: F) (.inl rfl) rfl (qu rfl) ?_
       exact ⟨rfl, p, md, v', _, od', _, _, _, Cn', C', ba, bl, ⟨hcc1, hci, by push_cast; omega⟩, hn', hw', hD', by rw [hdn]⟩
      ·
       refine qO <| q9 (wn rfl rfl) <| qE rfl <| qF <| qM rfl (fun hc22 => ?_) (fun hc22 => ?_)
       ·
        refine qN ?_
        obtain ⟨n', hnc, hld⟩ : ∃ n', (zl W = [] → W.self.at_ ≠ 0 → Cpl n' W) ∧ (zl W = [] → W.self.at_ ≠ 0 → ∀ (w0 : World) (F : Res), FnT Tryz.prog w0 68 #[.agg (wt ((D W.self.at_).getD Sec.zero)).toArray, .int .i64 W.self.at_, .func (.func 11) #[.pointer (some ⟨x, 0, none⟩)] #[]] (StD x p v md nx dn od :: G :: F) (fun v' L' => ∃ p' Cn', v' = .tuple #[.pointer (some ⟨p', 0, none⟩), .int .i64 0] ∧ NodeC p' n' Cn' ∧ L' = Cn' :: StD x p v md nx dn od :: G :: F)) := by
          by_cases hc : zl W = [] ∧ W.self.at_ ≠ 0
          · obtain ⟨n', h1, h2⟩ := load_cpl hI (by omega) hc.1 hc.2
            exact ⟨n', fun _ _ => h1, fun _ _ w0 F => h2 w0 F _ G _ hg hrd⟩
          · exact ⟨n, fun h1 h2 => absurd ⟨h1, h2⟩ hc, fun h1 h2 => absurd ⟨h1, h2⟩ hc⟩
        refine qK <| qA rfl <| qG (w5 rfl (xp (StD x p v md nx dn od) (Cn) (C) (G) (lload_ok x p md v nx dn hdn od n n' W D Cn C G hn hw hD hld))) ?_
        rintro t134 _ ⟨rfl, p', Cn', hn', rfl⟩
        refine qE rfl <| qF <| qy <| wH <| k3 <| wC (StD x p' v md nx dn od :: Cn' :: C :: G :: I :: F) (.inl rfl) rfl (qu rfl) <| ⟨rfl, p', md, v, nx, od, _, W, D, Cn', C, ba, bl, ⟨?_, hI, by push_cast; omega⟩, hn', hw, hD, by rw [hdn]⟩
        split
        · rename_i hc; exact hnc hc.1 hc.2
        · exact hP.cpl
       ·
        refine qO <| q9 (wn rfl rfl) <| qE rfl <| qF <| qM rfl (fun hc24 => ?_) (fun hc24 => ?_)
        ·
         refine qO <| q9 (wX rfl) <| q9 (wX rfl) <| q9 (wX rfl) <| q9 (qB rfl) <| q9 (qI rfl rfl) <| q9 (W4 rfl rfl) <| q9 (wX rfl) <| q9 (qB rfl) <| q9 (qI rfl rfl) <| q9 (W4 rfl rfl) <| q9 (wX rfl) <| q9 (qB rfl) <| q9 (qI rfl rfl) <| q9 (W4 rfl rfl) <| q9 (wX rfl) <| qG (wK rfl rfl rfl) ?_
         rintro t152 _ ⟨b152, rfl, rfl⟩
         refine qE rfl <| qF <| qN ?_
         obtain ⟨r, hr⟩ : ∃ r, a.at_.tmod 6 = r := ⟨_, rfl⟩
         have hr6 := tmod6 a.at_
         rw [hr] at hr6
         obtain ⟨j, hj⟩ : ∃ j : Nat, (r + 6) % 6 = j := ⟨((r + 6) % 6).toNat, by omega⟩
         obtain ⟨k, hk⟩ : ∃ k, (plA a)[j]? = some k := ⟨_, List.getElem?_eq_getElem (show j < 6 by omega)⟩
         have hkp := plA_ok a k (List.mem_of_getElem? hk)
         refine yy (L' := [(b152, .cells ((plA a).flatMap zK ++ []).toArray 65 (0, 0))] :: [(b3, .cells [.int .i64 a.kind, .int .i64 a.at_, .int .i64 a.n, .slice a.q a.bs.length a.c].toArray 25 (0, 0))] :: StD x p v md nx dn od :: Cn :: C :: G :: I :: F) (yW rfl) <| qK <| qA rfl <| q9 (qB rfl) <| q9 (qI rfl rfl) <| q9 (op_remt rfl rfl (by decide)) ?_
         rw [hr]
         refine q9 (w9 rfl rfl (by omega)) <| q9 (jz rfl rfl (by omega) (by omega)) <| q9 (qx (j := j) (off := j * 2) rfl rfl hj (by omega) (by simp)) ?_
         refine q9 (zC (j := j) y9 rfl hk rfl) <| qG (qj) ?_
         rintro t18 _ ⟨b18, rfl, rfl⟩
         refine qR (qo (l := [Value.int .i64 0, Value.int .i64 0]) (vs := zK k) rfl rfl rfl rfl rfl) <| qF <| qN <| wT wB <| wD [(161, .pure _), (162, .pure _), (163, .pure _), (164, .pure _), (165, .pure _)] (by kernel_rfl) rfl rfl rfl wm (qC rfl (fun X => qP rfl) <| qC rfl (fun X => qQ rfl) <| qC rfl (fun X => qB rfl) <| qC rfl (fun X => zp (r := v) rfl (jU hv) hv) <| qC rfl (fun X => wQ (l := zK k) rfl rfl) <| ParH.nil rfl) ?_
         dsimp only [ze, List.drop, List.length]
         refine wE (by kernel_rfl) (wM rfl (zk (C) (J2 W v C hw k hkp))) ?_
         refine wE (by kernel_rfl) (zS rfl) ?_
         refine wI <| qJ <| qN ?_
         have hmc := move_cpl hP.cpl hI hkp (qn W k)
         have hmv := fun (F : Res) => move_ok (w0 := w0) (F := F) H HP p n Cn (StD x p v md nx dn od) G hn hg hP.cpl.ok k (qn W k) _ D hrd
         rw [hP.cpl.num, hP.cpl.ver] at hmv
         have hlv := fun (w0 : World) (F : Res) => rlive_ok (w0 := w0) (F := F) W v C hw k hkp (qn W k)
         rw [hI.num, hI.ver] at hlv
         refine wT wB <| wD [(168, .pure _), (169, .pure _), (170, .pure _), (171, .pure _), (172, .pure _), (173, .pure _), (174, .pure _), (175, .pure _), (176, .pure _), (177, .pure _)] (by kernel_rfl) rfl rfl rfl wm (qC rfl (fun X => qP rfl) <| qC rfl (fun X => qQ rfl) <| qC rfl (fun X => qB rfl) <| qC rfl (fun X => qI rfl xb) <| qC rfl (fun X => qP rfl) <| qC rfl (fun X => wQ (l := zK k) rfl rfl) <| qC rfl (fun X => wM rfl (zk (StD x p v md nx dn od) (JG x p md v nx dn od W C hw k))) <| qC rfl (fun X => qP rfl) <| qC rfl (fun X => qP rfl) <| qC rfl (fun X => z6 rfl rfl) <| ParH.nil rfl) ?_
         dsimp only [ze, List.drop, List.length]
         refine z8 (by kernel_rfl) (w5 rfl (jD (Cn) (StD x p v md nx dn od) (G) (hmv _))) ?_
         rintro t178 _ ⟨Cn', rfl, hn', rfl⟩
         refine wE (by kernel_rfl) (qP rfl) ?_
         refine wD [(179, .pure _), (180, .pure _), (20, .pure _)] (by kernel_rfl) rfl rfl rfl wm (qC rfl (fun X => qf rfl rfl) <| qC rfl (fun X => qf rfl rfl) <| qC rfl (fun X => zS rfl) <| ParH.nil rfl) ?_
         dsimp only [ze, List.drop, List.length]
         refine wE (by kernel_rfl) (zS rfl) ?_
         refine wI <| qJ <| qN <| wT wB <| wD [(181, .pure _), (182, .pure _), (183, .pure _), (184, .pure _), (185, .pure _), (186, .pure _), (187, .pure _), (188, .pure _), (189, .pure _), (190, .pure _)] (by kernel_rfl) rfl rfl rfl wm (qC rfl (fun X => qP rfl) <| qC rfl (fun X => qQ rfl) <| qC rfl (fun X => qB rfl) <| qC rfl (fun X => zp (r := v) rfl (jU hv) hv) <| qC rfl (fun X => qB rfl) <| qC rfl (fun X => qI rfl rfl) <| qC rfl (fun X => qB rfl) <| qC rfl (fun X => qI rfl rfl) <| qC rfl (fun X => wX rfl) <| qC rfl (fun X => qP rfl) <| ParH.nil rfl) ?_
         dsimp only [ze, List.drop, List.length]
         refine wE (by kernel_rfl) (wM rfl (zk (C) (hlv w0 _))) ?_
         refine wE (by kernel_rfl) (zS rfl) ?_
         refine wI <| qJ <| zY (Γ := {pΓ : (RS) × (List Value) × (qV) // (fun (W1 : RS) (l1 : List Value) (C1 : qV) => RefC ba bl W1 l1 C1 ∧ W1 = (if xP W k (qn W k) then yS W k else W)) pΓ.1 pΓ.2.1 pΓ.2.2}) (fun g => (fun (W1 : RS) (l1 : List Value) (C1 : qV) => [(20, .bool (decide (xP W k (qn W k)))), (21, .int .i64 0), (22, .bool (decide (xP W k (qn W k))))]) g.1.1 g.1.2.1 g.1.2.2) (fun g => (fun (W1 : RS) (l1 : List Value) (C1 : qV) => StD x p l1 md nx dn od :: Cn' :: C1 :: G :: I :: F) g.1.1 g.1.2.1 g.1.2.2) ?_ ?_
         ·
          refine qN ?_
          rw [hmc.1]
          refine qK <| qA rfl <| qF <| qM rfl (fun hc30 => ?_) (fun hc30 => ?_)
          ·
           refine yb wB (show TrS _ _ _ _ [false, false, false, false, false, false, false, false, false, false] _ _ _ from ?_)
           refine qH 0 rfl rfl rfl (wO rfl) <| qH 1 rfl rfl rfl (wO rfl) <| qH 2 rfl rfl rfl (y4 rfl) <| qH 3 rfl rfl rfl (wo rfl) <| wv (i := 4) (j := 5) (by kernel_rfl) rfl ?_ ?_
           ·
            refine qd rfl rfl rfl (zp (r := v) rfl (jU hv) hv) <| qS 5 rfl <| qd rfl rfl rfl (wQ (l := zK k) rfl rfl) <| qS 6 rfl <| w7 rfl rfl rfl (w5 rfl (we (C) (XR W v C hw k hkp))) ?_
            rintro t199 _ ⟨l', C', rfl, hw', rfl⟩
            refine qH 7 rfl rfl rfl (y4 rfl) <| qH 8 rfl rfl rfl (wo rfl) <| qS 9 rfl <| wR rfl rfl rfl (yw (r := stV p l' md nx dn) rfl rfl (Qx hv hw'.len) (by rw [jw hv, hw'.len]; decide) hw'.len hw'.one) ?_
            refine wF <| qW ⟨(yS W k, l', C'), ?_⟩ ?_
            · (try dsimp only); exact ⟨hw', by rw [if_pos hc30]⟩
            · (try dsimp only); exact qX _
           ·
            refine qd rfl rfl rfl (wQ (l := zK k) rfl rfl) <| qS 4 rfl <| qd rfl rfl rfl (zp (r := v) rfl (jU hv) hv) <| qS 6 rfl <| w7 rfl rfl rfl (w5 rfl (we (C) (XR W v C hw k hkp))) ?_
            rintro t199 _ ⟨l', C', rfl, hw', rfl⟩
            refine qH 7 rfl rfl rfl (y4 rfl) <| qH 8 rfl rfl rfl (wo rfl) <| qS 9 rfl <| wR rfl rfl rfl (yw (r := stV p l' md nx dn) rfl rfl (Qx hv hw'.len) (by rw [jw hv, hw'.len]; decide) hw'.len hw'.one) ?_
            refine wF <| qW ⟨(yS W k, l', C'), ?_⟩ ?_
            · (try dsimp only); exact ⟨hw', by rw [if_pos hc30]⟩
            · (try dsimp only); exact qX _
          ·
           refine qZ <| qW ⟨(W, v, C), ?_⟩ ?_
           · (try dsimp only); exact ⟨hw, by rw [if_neg hc30]⟩
           · (try dsimp only); exact qX _
         rintro ⟨⟨W1, l1, C1⟩, hcut⟩
         replace hcut : RefC ba bl W1 l1 C1 ∧ W1 = (if xP W k (qn W k) then yS W k else W) := hcut
         obtain ⟨hw1, hW1⟩ := hcut
         show Tr _ _ _ ([(20, .bool (decide (xP W k (qn W k)))), (21, .int .i64 0), (22, .bool (decide (xP W k (qn W k))))]) (StD x p l1 md nx dn od :: Cn' :: C1 :: G :: I :: F) _ _
         refine qO <| qA rfl <| q9 (wn rfl rfl) <| qA rfl <| qY (s := 204) rfl (fun hg32_2 => ?_) (fun hg32_2 => ?_)
         ·
          refine qD rfl rfl (qP rfl) <| qD rfl rfl (qP rfl) <| qD rfl rfl (op_eqlB rfl rfl Tryz.underlying4) <| q9 (qq rfl rfl) <| qE rfl <| qF <| qy <| wH <| k3 <| wC (StD x p l1 md nx dn od :: Cn' :: C1 :: G :: I :: F) (.inl rfl) rfl (qu rfl) ?_
          exact ⟨by simp, p, md, l1, nx, od, _, _, D, Cn', C1, ba, bl, ⟨by rw [hW1]; exact hmc.2.1, by rw [hW1]; exact hmc.2.2, by push_cast; omega⟩, hn', hw1, hD, by rw [hdn]⟩
         · exact absurd rfl hg32_2
        ·
         refine qO <| q9 (wn rfl rfl) <| qE rfl <| qF <| qM rfl (fun hc33 => ?_) (fun hc33 => ?_)
         ·
          refine qN ?_
          have hmk := Zt a.n (M := 7) (by omega) (by omega)
          refine wT wB <| wD [(211, .pure _), (212, .pure _), (213, .pure _), (214, .pure _), (215, .pure _), (216, .pure _), (217, .pure _), (218, .pure _)] (by kernel_rfl) rfl rfl rfl wm (qC rfl (fun X => qP rfl) <| qC rfl (fun X => qQ rfl) <| qC rfl (fun X => qB rfl) <| qC rfl (fun X => qI rfl xb) <| qC rfl (fun X => qB rfl) <| qC rfl (fun X => qI rfl rfl) <| qC rfl (fun X => W4 rfl rfl) <| qC rfl (fun X => zG rfl (by simp [IntKind.min, IntKind.max, IntKind.bits, IntKind.signed]; omega)) <| ParH.nil rfl) ?_
          dsimp only [ze, List.drop, List.length]
          refine z8 (by kernel_rfl) (w5 rfl (kG (Cn) (G) (setTime_ok p n Cn G hn hg (zb .and .i64 a.n 7)))) ?_
          rintro t219 _ ⟨rfl, Cn', hn', rfl⟩
          refine wI <| qJ <| yb wB (show TrS _ _ _ _ [false, false, false, false, false, false, false, false, false, false, false, false, false] _ _ _ from ?_)
          refine qH 0 rfl rfl rfl (wO rfl) <| qH 1 rfl rfl rfl (wO rfl) <| qH 2 rfl rfl rfl (y4 rfl) <| qH 3 rfl rfl rfl (wo rfl) <| qH 5 rfl rfl rfl (wo rfl) <| wv (i := 4) (j := 6) (by kernel_rfl) rfl ?_ ?_
          ·
           refine qd rfl rfl rfl (zp (r := v) rfl (jU hv) hv) <| qS 6 rfl <| qd rfl rfl rfl (qI rfl rfl) <| qS 7 rfl <| qd rfl rfl rfl (W4 rfl rfl) <| qS 8 rfl <| qd rfl rfl rfl (zG rfl (by simp [IntKind.min, IntKind.max, IntKind.bits, IntKind.signed]; omega)) ?_
           refine qS 9 rfl <| w7 rfl rfl rfl (w5 rfl (we (C) (QE W v C hw (zb .and .i64 a.n 7)))) ?_
           rintro t229 _ ⟨l', C', rfl, hw', rfl⟩
           refine qH 10 rfl rfl rfl (y4 rfl) <| qH 11 rfl rfl rfl (wo rfl) <| qS 12 rfl <| wR rfl rfl rfl (yw (r := stV p l' md nx dn) rfl rfl (Qx hv hw'.len) (by rw [jw hv, hw'.len]; decide) hw'.len hw'.one) ?_
           refine wF <| qe <| qW ⟨(jG n (zb .and .i64 a.n 7), j1 W (zb .and .i64 a.n 7), l', Cn', C'), ?_⟩ ?_
           · (try dsimp only); exact ⟨hn', hw', ZT hP.cpl hI _ (by omega)⟩
           · (try dsimp only); exact qX _
          ·
           refine qd rfl rfl rfl (qI rfl rfl) <| wv (i := 4) (j := 7) (by kernel_rfl) rfl ?_ ?_
           ·
            refine qd rfl rfl rfl (zp (r := v) rfl (jU hv) hv) <| qS 7 rfl <| qd rfl rfl rfl (W4 rfl rfl) <| qS 8 rfl <| qd rfl rfl rfl (zG rfl (by simp [IntKind.min, IntKind.max, IntKind.bits, IntKind.signed]; omega)) ?_
            refine qS 9 rfl <| w7 rfl rfl rfl (w5 rfl (we (C) (QE W v C hw (zb .and .i64 a.n 7)))) ?_
            rintro t229 _ ⟨l', C', rfl, hw', rfl⟩
            refine qH 10 rfl rfl rfl (y4 rfl) <| qH 11 rfl rfl rfl (wo rfl) <| qS 12 rfl <| wR rfl rfl rfl (yw (r := stV p l' md nx dn) rfl rfl (Qx hv hw'.len) (by rw [jw hv, hw'.len]; decide) hw'.len hw'.one) ?_
            refine wF <| qe <| qW ⟨(jG n (zb .and .i64 a.n 7), j1 W (zb .and .i64 a.n 7), l', Cn', C'), ?_⟩ ?_
            · (try dsimp only); exact ⟨hn', hw', ZT hP.cpl hI _ (by omega)⟩
            · (try dsimp only); exact qX _
           ·
            refine qd rfl rfl rfl (W4 rfl rfl) <| wv (i := 4) (j := 8) (by kernel_rfl) rfl ?_ ?_
            ·
             refine qd rfl rfl rfl (zp (r := v) rfl (jU hv) hv) <| qS 8 rfl <| qd rfl rfl rfl (zG rfl (by simp [IntKind.min, IntKind.max, IntKind.bits, IntKind.signed]; omega)) ?_
             refine qS 9 rfl <| w7 rfl rfl rfl (w5 rfl (we (C) (QE W v C hw (zb .and .i64 a.n 7)))) ?_
             rintro t229 _ ⟨l', C', rfl, hw', rfl⟩
             refine qH 10 rfl rfl rfl (y4 rfl) <| qH 11 rfl rfl rfl (wo rfl) <| qS 12 rfl <| wR rfl rfl rfl (yw (r := stV p l' md nx dn) rfl rfl (Qx hv hw'.len) (by rw [jw hv, hw'.len]; decide) hw'.len hw'.one) ?_
             refine wF <| qe <| qW ⟨(jG n (zb .and .i64 a.n 7), j1 W (zb .and .i64 a.n 7), l', Cn', C'), ?_⟩ ?_
             · (try dsimp only); exact ⟨hn', hw', ZT hP.cpl hI _ (by omega)⟩
             · (try dsimp only); exact qX _
            ·
             refine qd rfl rfl rfl (zG rfl (by simp [IntKind.min, IntKind.max, IntKind.bits, IntKind.signed]; omega)) ?_
             refine qS 4 rfl <| qd rfl rfl rfl (zp (r := v) rfl (jU hv) hv) <| qS 9 rfl <| w7 rfl rfl rfl (w5 rfl (we (C) (QE W v C hw (zb .and .i64 a.n 7)))) ?_
             rintro t229 _ ⟨l', C', rfl, hw', rfl⟩
             refine qH 10 rfl rfl rfl (y4 rfl) <| qH 11 rfl rfl rfl (wo rfl) <| qS 12 rfl <| wR rfl rfl rfl (yw (r := stV p l' md nx dn) rfl rfl (Qx hv hw'.len) (by rw [jw hv, hw'.len]; decide) hw'.len hw'.one) ?_
             refine wF <| qe <| qW ⟨(jG n (zb .and .i64 a.n 7), j1 W (zb .and .i64 a.n 7), l', Cn', C'), ?_⟩ ?_
             · (try dsimp only); exact ⟨hn', hw', ZT hP.cpl hI _ (by omega)⟩
             · (try dsimp only); exact qX _
         ·
          refine qZ <| qe <| qW ⟨(n, W, v, Cn, C), ?_⟩ ?_
          · (try dsimp only); exact ⟨hn, hw, hP.cpl, hI⟩
          · (try dsimp only); exact qX _
  rintro ⟨⟨n1, W1, l1, Cn1, C1⟩, hcut⟩
  replace hcut : NodeC p n1 Cn1 ∧ RefC ba bl W1 l1 C1 ∧ Cpl n1 W1 ∧ Inv W1 D nx := hcut
  obtain ⟨hn1, hw1, hc1, hI1⟩ := hcut
  show Tr _ _ _ ([]) (StD x p l1 md nx dn od :: Cn1 :: C1 :: G :: I :: F) _ _
  refine qO <| qE rfl <| qF <| qy <| wC (StD x p l1 md nx dn od :: Cn1 :: C1 :: G :: I :: F) (.inl rfl) rfl (qu rfl) ?_
  exact ⟨rfl, p, md, l1, nx, od, n1, W1, D, Cn1, C1, ba, bl, ⟨hc1, hI1, by push_cast; omega⟩, hn1, hw1, hD, by rw [hdn]⟩
end
end Go.Proofs.YtjikpomndbkfgaaGreatDoor
namespace Go.Sx
open Go
section
variable {P : Program} {N : Nat} {w0 : World} {E : Env} {L : Res}
theorem op_convBytes {x : Operand} {t ty e b n c : Nat} {l : List Value} {et : TypeId} {S : Obj → Res} (hx : opv E x = some (.slice (some ⟨b, 0, none⟩) n c)) (ht : P.underlying t = some (.slice e)) (he : P.underlying e = some (.int .u8)) [ha : At L b (.cells l.toArray et (0, 0)) S] :
    Op1 P N w0 E L (.convert t t x) ty (.slice (some ⟨b, 0, none⟩) n c) (S (.cells l.toArray et (l.length, l.length + 1))) :=
  .of_run fun o a w h1 _ h3 h4 => by
    have hb := h4.get ha
    have hlt : b < w.heap.size := (Array.getElem?_eq_some_iff.1 hb).1
    have hsh : w.shape? b = some (et, l.length) := by simp [World.shape?, hb]
    refine ⟨w.freeze ⟨b, l.length, none⟩ 1, ?_, ?_⟩
    · rw [execOp, h1]
      simp [h3.eval hx, convert, qz ht, qz he, markStringish, hsh]
    · have hfz : w.freeze ⟨b, l.length, none⟩ 1 = { w with heap := w.heap.modify b fun
          | .cells c elem (lo, hi) => .cells c elem (if lo == hi then (l.length, l.length + 1) else (min lo l.length, max hi (l.length + 1)))
          | o => o } := by unfold World.freeze; rw [if_neg (by decide)]; rfl
      rw [hfz]
      refine h4.setAt ha _ rfl rfl rfl (by simp) ?_ (fun k hk => ?_)
      · show (w.heap.modify b _)[b]? = _
        rw [Array.getElem?_modify, if_pos rfl, hb]; rfl
      · show (w.heap.modify b _)[k]? = _
        rw [Array.getElem?_modify, if_neg (Ne.symm hk)]
end
end Go.Sx
namespace Go.Proofs.YtjikpomndbkfgaaGreatDoor
open Go Go.Sx Go.Nd
set_option maxRecDepth 10000
section
variable {w0 : World} {L F : Res} {ba bl : Nat}
def wAw : RS := (kU (WZ 3 7 1) 1100 [97, 98]).2
theorem cut1100 : ku 1100 2 = [(8, 76, 78)] := by decide
theorem Yy : kU (WZ 3 7 1) 1100 [97, 98] = (0, { WZ 3 7 1 with all := ky [(8, 76, 78)] [97, 98] (WZ 3 7 1).all, size := 1102 }) := by
  unfold kU
  rw [if_neg (by decide), show (([97, 98] : List Int).length : Int) = 2 from rfl, cut1100]
  rfl
theorem xq (i : Int) : (wAw.all i).fresh = true ↔ i = 8 := by
  unfold wAw; rw [Yy]
  show (ky [(8, 76, 78)] [97, 98] (WZ 3 7 1).all i).fresh = true ↔ _
  rw [(Qw _ _ _ i).2]
  constructor
  · rintro (h | ⟨q, hq, e⟩)
    · cases h
    · rw [List.mem_singleton] at hq; subst hq; exact e.symm
  · intro e; exact .inr ⟨_, List.mem_singleton.2 rfl, e.symm⟩
theorem Ji (i : Int) : (wAw.all i).has = true ↔ i = 8 := by
  unfold wAw; rw [Yy]
  show (ky [(8, 76, 78)] [97, 98] (WZ 3 7 1).all i).has = true ↔ _
  rw [(Qw _ _ _ i).1]
  constructor
  · rintro (h | ⟨q, hq, e⟩)
    · cases h
    · rw [List.mem_singleton] at hq; subst hq; exact e.symm
  · intro e; exact .inr ⟨_, List.mem_singleton.2 rfl, e.symm⟩
theorem VA : ww 8 = (3, 0) := by decide
theorem Xz {k : Int × Int} (hk : qw k) (h1 : k.1 ≠ 1) : zD wAw k = true ↔ k = (2, 0) := by
  unfold wAw; rw [Yy]
  rcases wL hk with ⟨i, hi, rfl⟩ | rfl | rfl | rfl | ⟨j, hj, rfl⟩
  · exact absurd rfl h1
  · exact ⟨fun _ => rfl, fun _ => rfl⟩
  · exact ⟨fun h => (by cases h), fun h => (by cases h)⟩
  · exact ⟨fun h => (by cases h), fun h => (by cases h)⟩
  · exact ⟨fun h => (by cases h), fun h => (by cases h)⟩
theorem wAw_pend : zl wAw = [(1, 8), (3, 0), (2, 0)] := by
  classical
  rw [ZY]
  symm
  refine WN (out := [(1, 8), (3, 0), (2, 0)]) (by decide) (fun k => ?_) (List.Perm.refl _) (by decide)
  rw [decide_eq_true_eq]
  have h8 : InB 8 := by unfold InB; omega
  have hcl : ¬ chL wAw := by
    rintro ⟨j, h0, h1, h | ⟨i, hi, hf, ha⟩⟩
    · have := (Xz (zz ⟨h0, h1⟩) (by simp)).1 h; cases this
    · rw [(xq i).1 hf, VA] at ha; cases ha
  constructor
  · intro h
    simp only [List.mem_cons, List.not_mem_nil, or_false] at h
    rcases h with rfl | rfl | rfl
    · exact ⟨y3 h8, ko.2 ((xq 8).2 rfl)⟩
    · exact ⟨zT, Jr h8 ((xq 8).2 rfl) ((Ji 8).2 rfl) zT (by decide) (.inr (.inr VA))⟩
    · exact ⟨y2, Jr h8 ((xq 8).2 rfl) ((Ji 8).2 rfl) y2 (by decide) (.inl rfl)⟩
  · rintro ⟨hk, h⟩
    rcases wL hk with ⟨i, hi, rfl⟩ | rfl | rfl | rfl | ⟨j, hj, rfl⟩
    · have := (xq i).1 (ko.1 h); subst this; simp
    · simp
    · simp
    · unfold prR at h; rw [if_neg (by decide), if_neg (by decide), if_neg (by decide), if_pos rfl] at h
      rcases h.1 with h | h
      · have := (Xz zX (by decide)).1 h; cases this
      · exact absurd h hcl
    · unfold prR at h; rw [if_neg (by simp), if_pos rfl] at h
      rcases h.1 with h | ⟨i, hi, hf, ha⟩
      · have := (Xz (zz hj) (by simp)).1 h; cases this
      · rw [(xq i).1 hf, VA] at ha; cases ha
theorem wAw_idx : YG wAw = [8] := by
  have h1 : (YG wAw).Pairwise (· < ·) := (xg 1064).sublist List.filter_sublist
  have h2 : ∀ i, i ∈ YG wAw ↔ i ∈ ([8] : List Int) := fun i => by
    rw [Qh, List.mem_singleton, Ji]
    constructor
    · exact fun h => h.2
    · intro h; exact ⟨by rw [h]; unfold InB; omega, h⟩
  refine List.Perm.eq_of_pairwise (le := fun a b : Int => a < b) (fun a b _ _ h3 h4 => by omega) h1 (by simp) ?_
  exact (List.perm_ext_iff_of_nodup (h1.imp (fun h => Int.ne_of_lt h)) (by simp)).2 h2
theorem cost8 : JS [8] = 3 := by decide
theorem awake_ok (H : jL w0) (HP : QA) (G : qV) (hg : kj G) : FnT Tryz.prog w0 6 #[] (G :: F) (fun v L' => v = .bool true ∧ L' = G :: F) := by
  have hrd := fun (x p md : Nat) (v : List Value) (od : Obj) (hv : v.length = 14) (hD : MapF (Value.int .i64) jE (fun _ => none) od) => Z7 x p md v 100 false od (fun _ => none) hv hD
  simp only [Xf] at hrd
  obtain ⟨hc0, hi0⟩ := KV
  obtain ⟨he, hc1, hi1⟩ := Kz hc0 hi0 1100 [97, 98] (by decide)
  rw [show (kU (WZ 3 7 1) 1100 [97, 98]).1 = 0 from by rw [Yy]] at he
  rw [show (kU (WZ 3 7 1) 1100 [97, 98]).2 = wAw from rfl] at hc1 hi1
  obtain ⟨n1, hn1⟩ : ∃ n1, (ju (Zb 3 7 1) (fun _ => none) 1100 [97, 98]).2 = n1 := ⟨_, rfl⟩
  rw [hn1] at hc1
  have hp1 : yO n1 = [(1, 8), (3, 0), (2, 0)] := (hc1.parts hi1.has).trans wAw_pend
  have hx1 : jd n1 = [8] := (hc1.idx hi1.has).trans wAw_idx
  have hs1 : n1.size = 1102 := by rw [hc1.size]; unfold wAw; rw [Yy]
  refine qi (E0 := []) (N := 69) Tryz.func6 rfl rfl rfl rfl ?_
  refine qO <| qE rfl <| qm <| qG (w5 rfl (we (G) (Xs G hg))) ?_
  rintro t6 _ ⟨x, p, md, ba, bl, v, C, Cn, od, rfl, hn, hw, hD, rfl⟩
  refine qA rfl <| q9 (qf rfl rfl) <| q9 (qf rfl rfl) <| qE rfl <| qE rfl <| qF <| qN <| qO <| qA rfl <| q9 (kX rfl) <| qF <| wV rfl <| qZ <| qJ <| qO <| qA rfl <| q9 (qQ rfl) <| q9 (qB rfl) <| q9 (qI rfl xb) <| qG (wK rfl rfl rfl) ?_
  rintro t15 _ ⟨b15, rfl, rfl⟩
  refine q9 (op_convBytes rfl Tryz.underlying23 Tryz.underlying5) <| qA rfl <| q9 (z6 rfl rfl) <| qG (w5 rfl (kG (Cn) (StD x p v md 100 false od) (Z4 p (Zb 3 7 1) Cn (StD x p v md 100 false od) hn 1100 (some ⟨b15, 0, none⟩) 2 [97, 98] _ (fun _ => none) (hrd x p md v od hw.len hD) (by decide) (by decide) (by decide) (by decide) (by decide) (fun h => by cases h) (fun A => ⟨_, _, rfl, rfl, .inr ⟨b15, 0, (u8s [97, 98]).toArray, 5, (2, 3), rfl, List.mem_flatten.2 ⟨[(b15, .cells (u8s [97, 98]).toArray 5 (2, 3))], by simp [u8s], by simp⟩, rfl⟩⟩)))) ?_
  rintro t19 _ ⟨Cn', rfl, hn', rfl⟩
  rw [he, hn1] at *
  refine qE rfl <| qm <| qA rfl <| q9 (qQ rfl) <| q9 (qB rfl) <| q9 (qI rfl xb) <| qG (w5 rfl (kG (Cn') (G) (KD H HP p n1 Cn' G hn' hg hc1.ok))) ?_
  rintro t24 _ ⟨Cp, hsp, rfl⟩
  refine qE rfl <| qT ?_
  rw [hp1] at hsp
  replace hsp : SlC 62 4 t24 3 (([(1, 8), (3, 0), (2, 0)] : List (Int × Int)).flatMap (WC n1.num n1.ver)) Cp := hsp
  obtain ⟨pp, cp, hvp⟩ := hsp.slice
  refine qJ <| qN ?_
  rcases hsp with ⟨-, h0, -⟩ | ⟨bP, capP, spP, rfl, hcsP, rfl, hcapP, hncP⟩
  · cases h0
  refine qK <| qA rfl <| q9 (wn rfl rfl) <| qA rfl <| qY (s := 27) rfl (fun hg6_2 => ?_) (fun hg6_2 => ?_)
  ·
   refine qD rfl rfl (qP rfl) <| qD rfl rfl (qQ rfl) <| qD rfl rfl (qB rfl) <| qD rfl rfl (qI rfl xb) <| qD rfl rfl (wM rfl (zk (Cn') (size_ok p n1 Cn' hn'))) <| qD rfl rfl (wn rfl rfl) <| q9 (qq rfl rfl) <| qA rfl <| qY (s := 35) rfl (fun hg6_10 => ?_) (fun hg6_10 => ?_)
   ·
    refine qD rfl rfl (qP rfl) <| qD rfl rfl (w8 rfl) <| qD rfl rfl (wn rfl rfl) <| q9 (qq rfl rfl) <| qA rfl <| qY (s := 40) rfl (fun hg6_15 => ?_) (fun hg6_15 => ?_)
    ·
     refine qD rfl rfl (qP rfl) <| qD rfl rfl (qx (j := 0) (off := 0) rfl rfl rfl (by decide) rfl) <| qD rfl rfl (wA rfl) <| qD rfl rfl (qI rfl rfl) <| qD rfl rfl (wn rfl rfl) <| q9 (qq rfl rfl) <| qA rfl <| qY (s := 47) rfl (fun hg6_22 => ?_) (fun hg6_22 => ?_)
     ·
      refine qD rfl rfl (qP rfl) <| qD rfl rfl (qx (j := 1) (off := 4) rfl rfl rfl (by decide) rfl) <| qD rfl rfl (wA rfl) <| qD rfl rfl (qI rfl rfl) <| qD rfl rfl (wn rfl rfl) <| q9 (qq rfl rfl) <| qA rfl <| qY (s := 54) rfl (fun hg6_29 => ?_) (fun hg6_29 => ?_)
      ·
       refine qD rfl rfl (qP rfl) <| qD rfl rfl (qx (j := 2) (off := 8) rfl rfl rfl (by decide) rfl) <| qD rfl rfl (wA rfl) <| qD rfl rfl (qI rfl rfl) <| qD rfl rfl (wn rfl rfl) <| q9 (qq rfl rfl) <| qA rfl <| qY (s := 61) rfl (fun hg6_36 => ?_) (fun hg6_36 => ?_)
       ·
        refine qD rfl rfl (qP rfl) <| qD rfl rfl (qQ rfl) <| qD rfl rfl (qB rfl) <| qD rfl rfl (qI rfl xb) <| qD rfl rfl (wM rfl (zk (Cn') (Zn H p n1 Cn' hn' hc1.ok))) <| qD rfl rfl (wn rfl rfl) <| q9 (qq rfl rfl) <| qE rfl <| qF <| qy <| wC (G :: F) (.inl rfl) rfl (qu rfl) ?_
        exact ⟨by rw [hx1, cost8]; rfl, rfl⟩
       · exact absurd rfl hg6_36
      · exact absurd rfl hg6_29
     · exact absurd rfl hg6_22
    · exact absurd rfl hg6_15
   · exact absurd hs1 hg6_10
  · exact absurd rfl hg6_2
section
variable {W : RS} {D : Int → Option Sec} {nx : Int}
end
theorem Zw (a : ZR) : (Xx a).length = 4 := rfl
structure XF (R : Res) (q : Option Addr) (c : Nat) (acts : List ZR) : Prop where
  ok : ∀ a ∈ acts, Vf R a
  reads : ∀ w0, Reads w0 R (.slice q acts.length c) acts.length 4 (acts.flatMap Xx)
theorem act_at (w0 : World) {R : Res} {q : Option Addr} {c : Nat} {acts : List ZR} (h : XF R q c acts) {i : Nat} {a : ZR} (ha : acts[i]? = some a) :
    ∃ b off cs e fr, q = some ⟨b, off, none⟩ ∧ (b, Obj.cells cs e fr) ∈ R.flatten ∧ (cs.toList.drop (off + i * 4)).take 4 = Xx a ∧ off + i * 4 + 4 ≤ cs.size := by
  have hlt := (List.getElem?_eq_some_iff.1 ha).1
  obtain ⟨p, c', h1, h2, h3⟩ := (h.reads w0).h
  cases h1
  rcases h3 with h3 | ⟨b, off, cs, e, fr, rfl, h4, h5⟩
  · omega
  · refine ⟨b, off, cs, e, fr, rfl, h4, ?_, ?_⟩
    · have := Qj Zw acts [] ha
      rw [List.append_nil, ← h5, List.drop_take, List.take_take, Nat.min_eq_left (by omega), List.drop_drop] at this
      exact this
    · have h6 := congrArg List.length h5
      rw [List.length_take, List.length_drop, kR Zw] at h6
      have : cs.toList.length = cs.size := Array.length_toList
      omega
end
end Go.Proofs.YtjikpomndbkfgaaGreatDoor
namespace Go.Sx
open Go Go.RowKit
def Zh (B : Nat) (W : World) : qV := (List.range' B (W.heap.size - B)).map fun i => (i, (W.heap[i]?).getD (.cells #[] 0 (0, 0)))
theorem heapC_mem {B i : Nat} {W : World} {o : Obj} (hi : B ≤ i) (h : W.heap[i]? = some o) : (i, o) ∈ Zh B W := by
  have hlt := (Array.getElem?_eq_some_iff.1 h).1
  refine List.mem_map.2 ⟨i, List.mem_range'_1.2 ⟨hi, by omega⟩, by rw [h]; rfl⟩
theorem heapC_at {B : Nat} {W : World} {p : VC} (h : p ∈ Zh B W) : W.heap[p.1]? = some p.2 ∧ B ≤ p.1 := by
  obtain ⟨i, hi, rfl⟩ := List.mem_map.1 h
  have := List.mem_range'_1.1 hi
  have hlt : i < W.heap.size := by omega
  exact ⟨by show W.heap[i]? = some ((W.heap[i]?).getD _); rw [Array.getElem?_eq_getElem hlt]; rfl, this.1⟩
theorem own_all {B : Nat} {W : World} {G : qV} (hG : G.map (·.1) = List.range B) (hat : ∀ p ∈ G, W.heap[p.1]? = some p.2) : Own { W with drawn := 0 } (G :: Zh B W :: []) W := by
  refine ⟨rfl, rfl, rfl, Nat.zero_le _, Nat.le_refl _, ?_, fun p hp => ?_⟩
  · have e : (Zh B W).map (·.1) = List.range' B (W.heap.size - B) := by
      unfold Zh; rw [List.map_map]; exact (List.map_congr_left fun i _ => rfl).trans (List.map_id _)
    simp only [List.flatten_cons, List.flatten_nil, List.append_nil, List.map_append, hG, e]
    rw [List.nodup_append]
    refine ⟨List.nodup_range, List.nodup_range', fun a ha b hb => ?_⟩
    have := List.mem_range.1 ha
    have := List.mem_range'_1.1 hb
    omega
  · simp only [List.flatten_cons, List.flatten_nil, List.append_nil, List.mem_append] at hp
    rcases hp with hp | hp
    · exact hat p hp
    · exact (heapC_at hp).1
theorem Va {B : Nat} {W : World} {G : qV} (hG : G.map (·.1) = List.range B) (hat : ∀ p ∈ G, W.heap[p.1]? = some p.2) {i : Nat} {o : Obj} (h : W.heap[i]? = some o) : (i, o) ∈ ([G, Zh B W] : Res).flatten := by
  simp only [List.flatten_cons, List.flatten_nil, List.append_nil, List.mem_append]
  by_cases hi : i < B
  · have : i ∈ G.map (·.1) := by rw [hG]; exact List.mem_range.2 hi
    obtain ⟨p, hp, rfl⟩ := List.mem_map.1 this
    have := hat p hp
    rw [h] at this; cases this
    exact .inl hp
  · exact .inr (heapC_mem (by omega) h)
theorem below_all {B : Nat} {W W' : World} {G : qV} (hG : G.map (·.1) = List.range B) (hat : ∀ p ∈ G, W.heap[p.1]? = some p.2) (h : Own { W with drawn := 0 } (G :: Zh B W :: []) W') : Below W.heap.size W W' :=
  ⟨h.os, h.tape, h.output, h.size, fun k hk => by
    have h1 : W.heap[k]? = some W.heap[k] := Array.getElem?_eq_getElem hk
    rw [h1]
    exact h.at_ (k, _) (Va hG hat h1)⟩
theorem YU {W w0 : World} {R : Res} (hall : ∀ i o, W.heap[i]? = some o → (i, o) ∈ R.flatten) {a : Addr} {m c sz : Nat} {ys : List Value} (hl : ys.length = m * sz) (h : ∀ j, j < ys.length → W.cell? (a.add j) = ys[j]?) : Reads w0 R (.slice (some a) m c) m sz ys := by
  refine ⟨_, _, rfl, hl, ?_⟩
  by_cases h0 : m * sz = 0
  · exact .inl h0
  refine .inr ?_
  have hc0 := h 0 (by omega)
  rw [List.getElem?_eq_getElem (by omega)] at hc0
  have hs : a.spot = none := by simpa [Addr.add] using World.cell?_spot hc0
  obtain ⟨b, off, spot⟩ := a
  dsimp only at hs
  subst hs
  have hc : ∃ cs e fr, W.heap[b]? = some (.cells cs e fr) := by
    unfold World.cell? at hc0
    split at hc0
    · rename_i c t fr hb
      exact ⟨c, t, fr, by simpa [Addr.add] using hb⟩
    · cases hc0
  obtain ⟨cs, e, fr, hb⟩ := hc
  refine ⟨b, off, cs, e, fr, rfl, hall _ _ hb, ?_⟩
  have hcell : ∀ j, j < ys.length → cs[off + j]? = ys[j]? := fun j hj => by
    rw [← h j hj, yh]
    simp [World.cell?, hb]
  apply List.ext_getElem?
  intro j
  by_cases hj : j < ys.length
  · rw [List.getElem?_take, if_pos (by omega), List.getElem?_drop, ← hcell j hj]; simp
  · rw [List.getElem?_take, if_neg (by omega), List.getElem?_eq_none (by omega)]
end Go.Sx
namespace Go.Proofs.YtjikpomndbkfgaaGreatDoor
open Go Go.Sx Go.Nd Go.RowKit Go.Deep Go.ChangeShapes Go.WideShapes
instance : Inhabited ZR := ⟨⟨0, 0, 0, none, 0, []⟩⟩
section
variable {H : Type} {enc : TypeId × Value → H} {W : World} {R : Res}
theorem bytes_open (hall : ∀ i o, W.heap[i]? = some o → (i, o) ∈ R.flatten) {fuel : Nat} {cs : List Value} {x : DataW H × List MemPlace} (h : DataW.trod enc Tryz.prog W 0 (fun _ => true) true fuel 23 cs = some x) :
    ∃ (q : Option Addr) (c : Nat) (bs : List Int), cs = [.slice q bs.length c] ∧ IsB bs ∧ bs.length ≤ c ∧ (q = none → bs.length = 0) ∧ ∀ w0, Reads w0 R (.slice q bs.length c) bs.length 1 (u8s bs) := by
  rcases open_slice1 (e := 5) (by kernel_rfl) (by kernel_rfl) h with ⟨rfl, _⟩ | ⟨a, len, cap, m, n, V, D, Pl, rfl, _, hl, hm, hmm, _, hx⟩
  · exact ⟨none, 0, [], rfl, (fun _ h => by cases h), Nat.le_refl _, fun _ => rfl, fun w0 => Reads.nil (by simp)⟩
  · simp only [if_true] at hmm
    subst hmm
    obtain ⟨z, hz⟩ := choose_lt (α := Int) (p := fun i z => V i = .int .u8 z ∧ 0 ≤ z ∧ z ≤ 255) (n := m) (fun i hi => by
      obtain ⟨_, h2⟩ := hx i hi
      obtain ⟨z, h3, _, h4⟩ := DataW.trod_int (k := .u8) (by kernel_rfl) h2
      have := bounds_u8 h4
      simp only [List.cons.injEq, and_true] at h3
      exact ⟨z, h3, this⟩)
    refine ⟨some a, m, (List.range len).map z, by simp, fun b hb => ?_, by simpa using hl, (fun h => by cases h), fun w0 => ?_⟩
    · obtain ⟨i, hi, rfl⟩ := List.mem_map.1 hb
      exact ⟨(hz i (by have := List.mem_range.1 hi; omega)).2.1, by have := (hz i (by have := List.mem_range.1 hi; omega)).2.2; omega⟩
    · have hlen : ((List.range len).map z).length = len := by simp
      rw [hlen]
      refine YU hall (by simp [u8s]) (fun j hj => ?_)
      have hj' : j < len := by simpa [u8s] using hj
      rw [(hx j (by omega)).1, (hz j (by omega)).1]
      simp [u8s, hj']
set_option maxRecDepth 100000 in
theorem act_open (hall : ∀ i o, W.heap[i]? = some o → (i, o) ∈ R.flatten) {fuel : Nat} {cs : List Value} {x : DataW H × List MemPlace} (h : DataW.trod enc Tryz.prog W 0 (fun _ => true) true fuel 25 cs = some x) :
    ∃ a : ZR, cs = Xx a ∧ Vf R a := by
  obtain ⟨xs, n, _, _, hlen, hxl, hf⟩ := DataW.trod_struct Tryz.underlying25 h
  have hc4 : Tryz.prog.cellsOf 25 = 4 := by kernel_rfl
  rw [hc4] at hlen
  match cs, hlen with
  | [v0, v1, v2, v3], _ =>
    have g0 : DataW.trod enc Tryz.prog W 0 (fun _ => true) true n 3 (([v0, v1, v2, v3].drop 0).take (Tryz.prog.cellsOf 3)) = xs[0]? := hf 0 _ rfl
    have g1 : DataW.trod enc Tryz.prog W 0 (fun _ => true) true n 3 (([v0, v1, v2, v3].drop 1).take (Tryz.prog.cellsOf 3)) = xs[1]? := hf 1 _ rfl
    have g2 : DataW.trod enc Tryz.prog W 0 (fun _ => true) true n 3 (([v0, v1, v2, v3].drop 2).take (Tryz.prog.cellsOf 3)) = xs[2]? := hf 2 _ rfl
    have g3 : DataW.trod enc Tryz.prog W 0 (fun _ => true) true n 23 (([v0, v1, v2, v3].drop 3).take (Tryz.prog.cellsOf 23)) = xs[3]? := hf 3 _ rfl
    have c3 : Tryz.prog.cellsOf 3 = 1 := by kernel_rfl
    have cb : Tryz.prog.cellsOf 23 = 1 := by kernel_rfl
    rw [List.getElem?_eq_getElem (by rw [hxl]; decide)] at g0 g1 g2 g3
    simp only [c3, cb, List.drop, List.take] at g0 g1 g2 g3
    obtain ⟨k, e0, _, w0⟩ := DataW.trod_int (k := .i64) (by kernel_rfl) g0
    obtain ⟨p, e1, _, w1⟩ := DataW.trod_int (k := .i64) (by kernel_rfl) g1
    obtain ⟨q, e2, _, w2⟩ := DataW.trod_int (k := .i64) (by kernel_rfl) g2
    obtain ⟨qa, c, bs, e3, h1, h2, h3, h4⟩ := bytes_open hall g3
    simp only [List.cons.injEq, and_true] at e0 e1 e2 e3
    subst e0; subst e1; subst e2; subst e3
    exact ⟨⟨k, p, q, qa, c, bs⟩, rfl, bounds_i64 w1, bounds_i64 w2, h1, h2, h3, h4⟩
theorem acts_open (hall : ∀ i o, W.heap[i]? = some o → (i, o) ∈ R.flatten) {fuel : Nat} {cs : List Value} {x : DataW H × List MemPlace} (h : DataW.trod enc Tryz.prog W 0 (fun _ => true) true fuel 22 cs = some x) :
    ∃ (q : Option Addr) (c : Nat) (acts : List ZR), cs = [.slice q acts.length c] ∧ XF R q c acts ∧ (acts.length : Int) ≤ 9223372036854775807 := by
  rcases open_slice (e := 25) (by kernel_rfl) h with ⟨rfl, _⟩ | ⟨a, len, cap, m, n, D, Pl, rfl, _, hl, hm, hmm, _, hx⟩
  · exact ⟨none, 0, [], rfl, ⟨(fun _ h => by cases h), fun w0 => Reads.nil (by simp)⟩, by simp⟩
  · simp only [if_true] at hmm
    subst hmm
    have hc4 : Tryz.prog.cellsOf 25 = 4 := by kernel_rfl
    rw [hc4] at hx
    obtain ⟨z, hz⟩ := choose_lt (α := ZR) (p := fun i z => W.cells? 0 (a.add (i * 4)) 4 = some (Xx z) ∧ Vf R z) (n := m) (fun i hi => by
      obtain ⟨cs', h1, h2⟩ := hx i hi
      obtain ⟨b, rfl, hb⟩ := act_open hall h2
      exact ⟨b, h1, hb⟩)
    have hlen : ((List.range len).map z).length = len := by simp
    refine ⟨some a, m, (List.range len).map z, by simp, ⟨fun b hb => ?_, fun w0 => ?_⟩, by rw [hlen]; simp [maxLen] at hm; omega⟩
    · obtain ⟨i, hi, rfl⟩ := List.mem_map.1 hb
      exact (hz i (by have := List.mem_range.1 hi; omega)).2
    · rw [hlen]
      have hfl : (((List.range len).map z).flatMap Xx).length = len * 4 := by rw [kR Zw, hlen]
      refine YU hall hfl (fun j hj => ?_)
      have hj4 : j / 4 < len := by omega
      obtain ⟨_, _, hcell⟩ := World.cells?_some (hz (j / 4) (by omega)).1
      have h1 := hcell (j % 4) (Nat.mod_lt _ (by omega))
      rw [add_add, show j / 4 * 4 + j % 4 = j by omega] at h1
      rw [h1]
      have h2 := Qj Zw ((List.range len).map z) [] (j := j / 4) (x := z (j / 4)) (by simp [hj4])
      rw [List.append_nil] at h2
      rw [← h2, List.getElem?_take, if_pos (Nat.mod_lt _ (by omega)), List.getElem?_drop, show j / 4 * 4 + j % 4 = j by omega]
end
theorem gSelf : Tryz.prog.globalNamed "drumlin/node.self" = some 0 := by kernel_rfl
theorem gDouble : Tryz.prog.globalNamed "drumlin/node.double" = some 1 := by kernel_rfl
theorem gSingle : Tryz.prog.globalNamed "drumlin/node.single" = some 2 := by kernel_rfl
set_option maxRecDepth 100000 in
theorem Y7 {W : World} {nm : String} {g t : Nat} {cs : Array Value} {f : Nat} {p : List MemPlace} {a b : Int} {t' : Nat} (hg : Tryz.prog.globalNamed nm = some g) (ht' : (Tryz.prog.globals[g]?).map (·.type) = some t') (ht : (Tryz.prog.globals[g]?).map (·.type) = some t) (h100 : t' = 100) (hv : W.var? Tryz.prog nm = some cs)
    (hd : DataW.trod (fun _ => ()) Tryz.prog W 0 (fun _ => true) false f t cs.toList = some (.agg [.lit (.int .i64 a), .lit (.int .i64 b)], p)) :
    ∃ e fr, W.heap[g]? = some (.cells [Value.int .i64 a, Value.int .i64 b].toArray e fr) := by
  obtain rfl := Option.some.inj (ht'.symm.trans ht)
  subst h100
  obtain ⟨xs, n, _, hx, hlen, hxl, hf⟩ := DataW.trod_struct Tryz.underlying100 hd
  have hc2 : Tryz.prog.cellsOf 100 = 2 := by kernel_rfl
  have c3 : Tryz.prog.cellsOf 3 = 1 := by kernel_rfl
  rw [hc2] at hlen
  obtain ⟨l⟩ := cs
  match l, hlen, xs, hxl with
  | [v0, v1], _, [x0, x1], _ =>
    have g0 : DataW.trod (fun _ => ()) Tryz.prog W 0 (fun _ => true) false n 3 (([v0, v1].drop 0).take (Tryz.prog.cellsOf 3)) = [x0, x1][0]? := hf 0 _ rfl
    have g1 : DataW.trod (fun _ => ()) Tryz.prog W 0 (fun _ => true) false n 3 (([v0, v1].drop 1).take (Tryz.prog.cellsOf 3)) = [x0, x1][1]? := hf 1 _ rfl
    simp only [c3, List.drop, List.take] at g0 g1
    obtain ⟨k, e0, q0, _⟩ := DataW.trod_int (k := .i64) (by kernel_rfl) (show DataW.trod _ Tryz.prog W 0 _ false n 3 [v0] = some x0 from g0)
    obtain ⟨q, e1, q1, _⟩ := DataW.trod_int (k := .i64) (by kernel_rfl) (show DataW.trod _ Tryz.prog W 0 _ false n 3 [v1] = some x1 from g1)
    simp only [List.cons.injEq, and_true] at e0 e1
    subst e0; subst e1; subst q0; subst q1
    simp only [List.map_cons, List.map_nil, Prod.mk.injEq, DataW.agg.injEq, List.cons.injEq, DataW.lit.injEq, Lit.int.injEq, true_and, and_true] at hx
    obtain ⟨⟨rfl, rfl⟩, _⟩ := hx
    unfold World.var? at hv
    rw [hg] at hv
    simp only [Option.bind_some] at hv
    split at hv
    · rename_i c e fr hb
      cases hv
      exact ⟨e, fr, hb⟩
    · cases hv
def JI : List (String × DataW Unit) := [("drumlin/node.self", Rows.laid_drumlin_node_self), ("drumlin/node.single", Rows.laid_drumlin_node_single), ("drumlin/node.double", Rows.laid_drumlin_node_double)]
theorem glob_of_laid {W : World} (h : laidMetH Tryz.prog JI W) : ∃ G : qV, kj G ∧ G.map (·.1) = List.range 3 ∧ ∀ p ∈ G, W.heap[p.1]? = some p.2 := by
  rw [MakeChecks.laidMetH_plain _ _ _ (by kernel_rfl)] at h
  obtain ⟨ps, ⟨g0, t0, cs0, f0, p0, q0, hg0, ht0, hv0, hd0, ⟨g1, t1, cs1, f1, p1, q1, hg1, ht1, hv1, hd1, ⟨g2, t2, cs2, f2, p2, q2, hg2, ht2, hv2, hd2, _, _⟩, _⟩, _⟩, _, _⟩ := h
  obtain rfl := Option.some.inj (gSelf.symm.trans hg0)
  obtain rfl := Option.some.inj (gSingle.symm.trans hg1)
  obtain rfl := Option.some.inj (gDouble.symm.trans hg2)
  obtain ⟨e0, r0, h0⟩ := Y7 (t' := 100) gSelf (by kernel_rfl) ht0 rfl hv0 hd0
  obtain ⟨e2, r2, h2⟩ := Y7 (t' := 100) gSingle (by kernel_rfl) ht1 rfl hv1 hd1
  obtain ⟨e1, r1, h1⟩ := Y7 (t' := 100) gDouble (by kernel_rfl) ht2 rfl hv2 hd2
  refine ⟨_, ⟨e0, r0, e1, r1, e2, r2, rfl⟩, rfl, fun p hp => ?_⟩
  simp only [List.mem_cons, List.not_mem_nil, or_false] at hp
  rcases hp with rfl | rfl | rfl
  · exact h0
  · exact h1
  · exact h2
end Go.Proofs.YtjikpomndbkfgaaGreatDoor
namespace Go.Proofs
open Go.Shelf
def Tryz.laysSortI_ren : Go.Shelf.Ren := ⟨fun | 189 => 51 | 125 => 85 | 257 => 84 | 128 => 115 | 129 => 116 | 294 => 106 | 295 => 107 | 296 => 108 | 297 => 109 | 298 => 110 | 299 => 111 | 216 => 112 | 300 => 113 | 301 => 114 | 328 => 136 | 329 => 137 | 330 => 138 | 331 => 139 | 332 => 140 | 215 => 141 | 343 => 154 | n => n, fun | 28 => 39 | 3 => 3 | 46 => 158 | 0 => 0 | 51 => 34 | 53 => 199 | 4 => 4 | 183 => 190 | 182 => 189 | 131 => 195 | 5 => 5 | 9 => 9 | 218 => 220 | 222 => 224 | 228 => 252 | 229 => 253 | n => n, fun | n => n⟩
theorem Tryz.laysSortI : Go.Proofs.Lays.n189 Tryz.prog Tryz.laysSortI_ren where
  mixed := by kernel_rfl
  f125 := Tryz.func85.trans (congrArg some (by kernel_rfl))
  f128 := Tryz.func115.trans (congrArg some (by kernel_rfl))
  f129 := Tryz.func116.trans (congrArg some (by kernel_rfl))
  f189 := Tryz.func51.trans (congrArg some (by kernel_rfl))
  f215 := Tryz.func141.trans (congrArg some (by kernel_rfl))
  f216 := Tryz.func112.trans (congrArg some (by kernel_rfl))
  f257 := Tryz.func84.trans (congrArg some (by kernel_rfl))
  f294 := Tryz.func106.trans (congrArg some (by kernel_rfl))
  f295 := Tryz.func107.trans (congrArg some (by kernel_rfl))
  f296 := Tryz.func108.trans (congrArg some (by kernel_rfl))
  f297 := Tryz.func109.trans (congrArg some (by kernel_rfl))
  f298 := Tryz.func110.trans (congrArg some (by kernel_rfl))
  f299 := Tryz.func111.trans (congrArg some (by kernel_rfl))
  f300 := Tryz.func113.trans (congrArg some (by kernel_rfl))
  f301 := Tryz.func114.trans (congrArg some (by kernel_rfl))
  f328 := Tryz.func136.trans (congrArg some (by kernel_rfl))
  f329 := Tryz.func137.trans (congrArg some (by kernel_rfl))
  f330 := Tryz.func138.trans (congrArg some (by kernel_rfl))
  f331 := Tryz.func139.trans (congrArg some (by kernel_rfl))
  f332 := Tryz.func140.trans (congrArg some (by kernel_rfl))
  f343 := Tryz.func154.trans (congrArg some (by kernel_rfl))
  t0 := Tryz.underlying0
  a0 := Tryz.isAgg0
  z0 := Tryz.sizeOf0
  v0 := Tryz.zeroValue0
  t3 := Tryz.underlying3
  a3 := Tryz.isAgg3
  z3 := Tryz.sizeOf3
  v3 := Tryz.zeroValue3
  t4 := Tryz.underlying4
  a4 := Tryz.isAgg4
  z4 := Tryz.sizeOf4
  v4 := Tryz.zeroValue4
  t5 := Tryz.underlying5
  a5 := Tryz.isAgg5
  z5 := Tryz.sizeOf5
  v5 := Tryz.zeroValue5
  t9 := Tryz.underlying9
  a9 := Tryz.isAgg9
  z9 := Tryz.sizeOf9
  v9 := Tryz.zeroValue9
  t28 := Tryz.underlying39
  a28 := Tryz.isAgg39
  z28 := Tryz.sizeOf39
  v28 := Tryz.zeroValue39
  t46 := Tryz.underlying158
  a46 := Tryz.isAgg158
  z46 := Tryz.sizeOf158
  v46 := Tryz.zeroValue158
  t51 := Tryz.underlying34
  a51 := Tryz.isAgg34
  z51 := Tryz.sizeOf34
  v51 := Tryz.zeroValue34
  t53 := Tryz.underlying199
  a53 := Tryz.isAgg199
  z53 := Tryz.sizeOf199
  v53 := Tryz.zeroValue199
  t131 := Tryz.underlying195
  a131 := Tryz.isAgg195
  z131 := Tryz.sizeOf195
  v131 := Tryz.zeroValue195
  t182 := Tryz.underlying189
  a182 := Tryz.isAgg189
  z182 := Tryz.sizeOf189
  v182 := Tryz.zeroValue189
  t183 := Tryz.underlying190
  a183 := Tryz.isAgg190
  z183 := Tryz.sizeOf190
  v183 := Tryz.zeroValue190
  t218 := Tryz.underlying220
  a218 := Tryz.isAgg220
  z218 := Tryz.sizeOf220
  v218 := Tryz.zeroValue220
  t222 := Tryz.underlying224
  a222 := Tryz.isAgg224
  z222 := Tryz.sizeOf224
  v222 := Tryz.zeroValue224
  t228 := Tryz.underlying252
  a228 := Tryz.isAgg252
  z228 := Tryz.sizeOf252
  v228 := Tryz.zeroValue252
  t229 := Tryz.underlying253
  a229 := Tryz.isAgg253
  z229 := Tryz.sizeOf253
  v229 := Tryz.zeroValue253
end Go.Proofs
namespace Go.Sx
open Go
section
variable {w0 : World} {L F : Res}
theorem Own.grow {w : World} (h : Own w0 L w) (os : Array Obj) : Own w0 L (Go.Sort.grow w os) := by
  refine ⟨h.os, h.tape, h.output, h.drawn, ?_, h.nodup, fun p hp => ?_⟩
  · show w0.heap.size ≤ (w.heap ++ os).size
    have := h.size; rw [Array.size_append]; omega
  · show (w.heap ++ os)[p.1]? = _
    rw [Array.getElem?_append_left (h.lt hp)]; exact h.at_ p hp
theorem putCells_list {α : Type} [Inhabited α] (enc : α → Value) (xs ys : List α) (sp : List Value) (h : ys.length = xs.length) : Go.Sort.putCells enc 0 ys.toArray (xs.map enc ++ sp).toArray = (ys.map enc ++ sp).toArray := by
  apply Array.ext_getElem?
  intro i
  unfold Go.Sort.putCells
  rw [Array.getElem?_mapIdx]
  simp only [List.getElem?_toArray, List.size_toArray, Nat.zero_add, Nat.zero_le, true_and, Nat.sub_zero]
  by_cases hi : i < ys.length
  · rw [List.getElem?_append_left (by simp; omega), List.getElem?_append_left (by simpa using hi)]
    simp [hi, h ▸ hi]
  · rw [List.getElem?_append_right (by simp; omega), List.getElem?_append_right (by simp; omega)]
    simp only [List.length_map, h]
    rw [h] at hi
    simp [hi]
theorem KE {α : Type} [Inhabited α] {enc : α → Value} {b n : Nat} {e : TypeId} {xs ys : List α} {sp : List Value} {w : World} {os : Array Obj}
    (h : Own w0 ([(b, .cells (xs.map enc ++ sp).toArray e (0, 0))] :: F) w) (hl : ys.length = xs.length) : Own w0 ([(b, .cells (ys.map enc ++ sp).toArray e (0, 0))] :: F) (Go.Sort.grow (Go.Sort.putRow enc (Go.Sort.ahead w n) b 0 ys.toArray) os) := by
  refine Own.grow ?_ os
  have hb := h.get (At.head b _ F)
  refine h.setAt (At.head b _ F) (.cells (ys.map enc ++ sp).toArray e (0, 0)) rfl rfl rfl (by simp) ?_ (fun k hk => ?_) (by show w.drawn ≤ w.drawn + n; omega)
  · show (w.heap.modify b _)[b]? = _
    rw [Array.getElem?_modify, if_pos rfl, hb, ← putCells_list enc xs ys sp hl]; rfl
  · show (w.heap.modify b _)[k]? = _
    rw [Array.getElem?_modify, if_neg (Ne.symm hk)]
theorem JA {α : Type} [Inhabited α] {enc : α → Value} {b : Nat} {e : TypeId} {xs : List α} {sp : List Value} {w : World} (h : Own w0 ([(b, .cells (xs.map enc ++ sp).toArray e (0, 0))] :: F) w) : Go.Sort.Holds enc w b 0 xs.toArray := by
  have hb := h.get (At.head b _ F)
  intro j hj
  have hj' : j < xs.length := by simpa using hj
  refine ⟨?_, ?_⟩
  · rw [Yu hb]
    simp [hj']
    rw [List.getElem?_append_left (by simpa using hj')]; simp [hj']
  · simp [World.frozen?, hb]
end
end Go.Sx
namespace Go.Proofs.YtjikpomndbkfgaaGreatDoor
open Go Go.Sx Go.Nd
section
variable {w0 : World} {L F : Res}
theorem shelf_sortI (w0 : World) (F : Res) (u : Value) (n : Nat) (xs : List Int) (C : qV) (hs : SlC 3 1 u n (iV xs) C) (hx : xs.length = n) (hn : n ≤ 1000000) :
    FnT Tryz.prog w0 51 #[u] (C :: F) (fun v L' => v = .tuple #[] ∧ ∃ C', SlC 3 1 u n (iV (srt xs)) C' ∧ L' = C' :: F) := by
  subst hx
  rcases hs with ⟨rfl, h0, h1, rfl⟩ | ⟨b, cap, sp, rfl, hcs, rfl, hcap, hnc⟩
  · refine ⟨fun w hw => ?_⟩
    have hx : xs = [] := List.length_eq_zero_iff.1 h0
    subst hx
    refine (Go.Proofs.Any.slices_Sort_int_none Go.Proofs.Tryz.laysSortI none 0 w).mono fun e w' ⟨h2, h3⟩ => ?_
    subst h3
    exact ⟨_, _, h2, ⟨rfl, [], by rw [show srt ([] : List Int) = [] from by simp [srt]]; exact SlC.nil 3 1, rfl⟩, hw⟩
  · refine ⟨fun w hw => ?_⟩
    have hw' : Own w0 ([(b, .cells (xs.map (Value.int .i64) ++ sp).toArray 3 (0, 0))] :: F) w := hw
    refine (Go.Proofs.Any.slices_Sort_int Go.Proofs.Tryz.laysSortI b 0 cap xs w (JA hw') (hw.lt (p := (b, _)) (by simp; exact .inl rfl)) (by omega)).mono fun e w' ⟨h2, k, os, h3⟩ => ?_
    subst h3
    have hl : (srt xs).length = xs.length := Ws xs
    refine ⟨_, _, h2, ⟨rfl, _, ?_, rfl⟩, KE (ys := srt xs) hw' hl⟩
    exact .inr ⟨b, cap, sp, rfl, by simp [iV, hl], rfl, by simp only [List.length_append, iV, List.length_map, hl] at hcap ⊢; exact hcap, hnc⟩
end
end Go.Proofs.YtjikpomndbkfgaaGreatDoor
namespace Go.Proofs
open Go.Shelf Go.RowKit Go.Lib Go.Sort
def Tryz.laysCollect_ren : Go.Shelf.Ren := ⟨fun | 8 => 49 | 11 => 82 | n => n, fun | 26 => 3 | 28 => 116 | 24 => 39 | 0 => 0 | 33 => 97 | 4 => 4 | n => n, fun | n => n⟩
theorem Tryz.laysCollect : Go.Proofs.SlLaysZI.n8 Tryz.prog Tryz.laysCollect_ren where
  mixed := by kernel_rfl
  f8 := ⟨ "slices.Collect[int]", by decide, Tryz.func49.trans (congrArg some (by kernel_rfl))⟩
  f11 := ⟨ "slices.AppendSeq[[]int,int]", by decide, Tryz.func82.trans (congrArg some (by kernel_rfl))⟩
  t0 := Tryz.underlying0
  a0 := Tryz.isAgg0
  z0 := Tryz.sizeOf0
  v0 := Tryz.zeroValue0
  t24 := Tryz.underlying39
  a24 := Tryz.isAgg39
  z24 := Tryz.sizeOf39
  v24 := Tryz.zeroValue39
  t26 := Tryz.underlying3
  a26 := Tryz.isAgg3
  z26 := Tryz.sizeOf3
  v26 := Tryz.zeroValue3
  t28 := Tryz.underlying116
  a28 := Tryz.isAgg116
  z28 := Tryz.sizeOf116
  v28 := Tryz.zeroValue116
  i26 := by kernel_rfl
def Tryz.laysKeys_ren : Go.Shelf.Ren := ⟨fun | 10 => 90 | n => n, fun | 33 => 97 | 23 => 42 | 0 => 0 | 4 => 4 | 26 => 3 | 3 => 55 | n => n, fun | n => n⟩
theorem Tryz.laysKeys : Go.Proofs.SlLaysZI.n10 Tryz.prog Tryz.laysKeys_ren where
  mixed := by kernel_rfl
  f10 := ⟨ "maps.Keys[map[int]drumlin/api.Sector,int,drumlin/api.Sector]$1", by decide, Tryz.func90.trans (congrArg some (by kernel_rfl))⟩
  t0 := Tryz.underlying0
  a0 := Tryz.isAgg0
  z0 := Tryz.sizeOf0
  v0 := Tryz.zeroValue0
  t4 := Tryz.underlying4
  a4 := Tryz.isAgg4
  z4 := Tryz.sizeOf4
  v4 := Tryz.zeroValue4
  t23 := Tryz.underlying42
  a23 := Tryz.isAgg42
  z23 := Tryz.sizeOf42
  v23 := Tryz.zeroValue42
  t26 := Tryz.underlying3
  a26 := Tryz.isAgg3
  z26 := Tryz.sizeOf3
  v26 := Tryz.zeroValue3
  t33 := Tryz.underlying97
  a33 := Tryz.isAgg97
  z33 := Tryz.sizeOf97
  v33 := Tryz.zeroValue97
end Go.Proofs
namespace Go.Proofs.YtjikpomndbkfgaaGreatDoor
open Go Go.Sx Go.Nd Go.RowKit
section
variable {w0 : World}
def V6 (al : List (Int × Sec)) : DataW Unit := .map ((al.map fun p => ((Lit.int .i64 p.1, DataW.nil) : Lit × DataW Unit)).foldr DataW.insert [])
theorem keyD_keys (al : List (Int × Sec)) : (intKeys (V6 al)).Perm (zJ al) := by
  show ((List.foldr DataW.insert [] _).map fun p => Go.intOf p.1).Perm _
  refine ((Go.WideShapes.sorted_perm _).map _).trans ?_
  rw [List.map_map]
  exact List.Perm.of_eq rfl
theorem JM (al : List (Int × Sec)) : Maps.size (V6 al) = al.length := by
  show (List.foldr DataW.insert [] _).length = _
  rw [length_sorted, List.length_map]
set_option maxRecDepth 100000 in
theorem own_keys {w : World} {md : Nat} {al : List (Int × Sec)} {es : List MapEntry} {clock : Nat} (hm : w.heap[md]? = some (.map es.toArray clock)) (he : Entries (Value.int .i64) jE al es clock) (hr : ∀ k ∈ zJ al, 0 ≤ k ∧ k < 1064) :
    w.ownsMap Tryz.prog 3 (fun _ => some (DataW.nil, [])) md 1064 (V6 al) := by
  have hlen : es.length ≤ 1064 := by
    have h1 : es.length = (zJ al).length := by rw [k8 he]; simp [zJ]
    have h2 := yR (l2 := (List.range 1064).map (fun i : Nat => (i : Int))) he.nodup (fun k hk => by
      obtain ⟨h3, h4⟩ := hr k hk
      exact List.mem_map.2 ⟨k.toNat, List.mem_range.2 (by omega), by omega⟩)
    simp at h2; omega
  have hkeys : es.map (·.key) = (zJ al).map (Value.int .i64) := by
    have := congrArg (List.map Prod.fst) he.pairs
    simpa [zJ, List.map_map, Function.comp_def] using this
  have hread : ∀ x ∈ es, ∃ k, x.key = Value.int .i64 k ∧ k ∈ zJ al := fun x hx => by
    have : x.key ∈ es.map (·.key) := List.mem_map.2 ⟨x, hx, rfl⟩
    rw [hkeys] at this
    obtain ⟨k, h1, h2⟩ := List.mem_map.1 this
    exact ⟨k, h2.symm, h1⟩
  have hu : Tryz.prog.underlying 3 = some (.int .i64) := by kernel_rfl
  have hwf : ∀ k : Int, k ∈ zJ al → (Lit.int .i64 k).wf = true := fun k hk => by
    obtain ⟨h3, h4⟩ := hr k hk
    simp [Lit.wf, IntKind.min, IntKind.max, IntKind.bits, IntKind.signed]; omega
  have hrd : ∀ x ∈ es, ∀ k, x.key = Value.int .i64 k → k ∈ zJ al → Go.WideElems.rd Tryz.prog 3 (fun _ => some ((DataW.nil : DataW Unit), ([] : List MemPlace))) x = some (Lit.int .i64 k, DataW.nil) := fun x hx k h1 h2 => by
    unfold Go.WideElems.rd
    rw [h1, Go.Maps.keyOf_int_mk hu (hwf k h2)]; rfl
  refine ⟨es.toArray, clock, hm, ⟨by simp [maxLen]; omega, ⟨fun x hx => he.young x (by simpa using hx), ?_, ?_⟩, fun x hx => ?_⟩, by simpa using hlen, ?_⟩
  · have := he.asc.imp (fun {a b} (h : a < b) => Nat.ne_of_lt h)
    simpa [List.Nodup] using this
  · show (es.map (·.key)).Nodup
    rw [hkeys]
    exact (List.pairwise_map.2 (he.nodup.imp (fun {a b} h e => h (by cases e; rfl))))
  · obtain ⟨k, h1, h2⟩ := hread x (by simpa using hx)
    exact ⟨_, hrd x (by simpa using hx) k h1 h2⟩
  · unfold V6
    congr 1
    congr 1
    apply List.ext_getElem?
    intro i
    simp only [List.getElem?_map]
    cases ha : al[i]? with
    | none =>
      have : es[i]? = none := by rw [List.getElem?_eq_none_iff] at ha ⊢; rw [k8 he]; exact ha
      simp [this]
    | some p =>
      obtain ⟨e, h1, h2, _⟩ := km he (q := p.1) (v := p.2) ha
      simp only [h1, Option.map_some, Option.some.injEq]
      unfold Go.WideElems.rg
      rw [hrd e (List.mem_of_getElem? h1) p.1 h2 (List.mem_map.2 ⟨p, List.mem_of_getElem? ha, rfl⟩)]
      rfl
theorem JB {F : Res} {w w' : World} (hd : w0.drawn = 0) {C : qV} {v : Value} {ss : List Int} (hw : Own w0 F w) (hB : Below w.heap.size w w') (hr : w'.ownsRow w.heap.size 3 1 v ss.length (ss.map encZ)) :
    ∃ C, SlC 3 1 v ss.length (iV ss) C ∧ Own w0 (C :: F) w' := by
  have hold : Own w0 F w' := ⟨hB.os.trans hw.os, hB.tape.trans hw.tape, hB.output.trans hw.output, by rw [hd]; exact Nat.zero_le _, Nat.le_trans hw.size hB.size, hw.nodup, fun p hp => (hB.block p.1 (hw.lt hp)).trans (hw.at_ p hp)⟩
  obtain ⟨h1, ⟨rfl, h2⟩ | ⟨g, cap, cur, rfl, h3, h4, h5, h6, h7, h8⟩⟩ := hr
  · have : ss = [] := List.length_eq_zero_iff.1 h2
    subst this
    exact ⟨[], SlC.nil 3 1, hold.perm (by simp)⟩
  · refine ⟨[(g, .cells cur 3 (0, 0))], .inr ⟨g, cap, cur.toList.drop ss.length, rfl, by simp [iV], ?_, ?_, h5⟩, ⟨hold.os, hold.tape, hold.output, hold.drawn, hold.size, ?_, ?_⟩⟩
    · have : iV ss ++ cur.toList.drop ss.length = cur.toList := by
        rw [show iV ss = ss.map encZ from rfl, ← h8, Nat.mul_one, List.take_append_drop]
      rw [this, Array.toArray_toList]
    · have : iV ss ++ cur.toList.drop ss.length = cur.toList := by
        rw [show iV ss = ss.map encZ from rfl, ← h8, Nat.mul_one, List.take_append_drop]
      rw [this, Array.length_toList, h7]
    · simp only [List.flatten_cons, List.map_append, List.map_cons, List.map_nil, List.singleton_append, List.nodup_cons]
      refine ⟨fun hm => ?_, hold.nodup⟩
      obtain ⟨p, hp, e⟩ := List.mem_map.1 hm
      have := hw.lt hp
      omega
    · intro p hp
      simp only [List.flatten_cons, List.singleton_append, List.mem_cons] at hp
      rcases hp with rfl | hp
      · exact h4
      · exact hold.at_ p hp
theorem cF8 : Tryz.laysCollect_ren.f 8 = 49 := by kernel_rfl
theorem cF11 : Tryz.laysCollect_ren.f 11 = 82 := by kernel_rfl
theorem cT26 : Tryz.laysCollect_ren.t 26 = 3 := by kernel_rfl
theorem M7 : Tryz.laysKeys_ren.f 10 = 90 := by kernel_rfl
theorem kT26 : Tryz.laysKeys_ren.t 26 = 3 := by kernel_rfl
theorem Kg {g : Nat} (L : List FuncId) (h1 : 49 ∈ L) (h2 : 82 ∈ L) (h3 : g ∈ L) [he : Go.Sx.Enters Tryz.prog g] (lb : Array Value) (Dp : Nat) (S : List Int → Prop) (N : Nat) (hN : N ≤ maxLen) (hNb : N * 8 ≤ 140737488355328) (w : World)
    (hseq : SeqGives (Fence.list L (some Dp)) 1 Tryz.prog g lb encZ S N w) :
    CallsIn (Fence.list L (some Dp)) 3 Tryz.prog 49 #[.func (.func g) #[] lb] w fun e w' => ∃ (v : Value) (ss : List Int), e = .returned v ∧ S ss ∧ w'.ownsRow w.heap.size 3 1 v ss.length (ss.map encZ) ∧ (v = .slice none 0 0 ↔ ss = []) ∧ Below w.heap.size w w' := by
  have h := Go.Proofs.AnyZI.collect_in Go.Proofs.Tryz.laysCollect (Fence.list L (some Dp)) 3 (by rw [cF8]; exact h1) (by rw [cF11]; exact h2) rfl (by omega) g lb h3 he.h S N hN hNb w hseq
  rw [cF8, cT26] at h
  exact h
theorem gives_key (Dp b md nn : Nat) (D0 : DataW Unit) (w : World) (hb : b < w.heap.size) (hc : w.cell? ⟨b, 0, none⟩ = some (.map (some md))) (hown : w.ownsMap Tryz.prog 3 (fun _ => some (DataW.nil, [])) md nn D0) :
    SeqGives (Fence.list [49, 82, 90] (some Dp)) 1 Tryz.prog 90 #[.pointer (some ⟨b, 0, none⟩)] encZ (fun ss => ss.Perm (intKeys D0)) (Maps.size D0) w := by
  have h := Go.Proofs.AnyZI.keys_gives Go.Proofs.Tryz.laysKeys (Fence.list [49, 82, 90] (some Dp)) 1 (by rw [M7]; simp [Fence.list]) rfl (by omega) b md nn D0 w hb hc (by rw [kT26]; exact hown)
  rw [M7] at h
  exact h
theorem shelf_keys (hd : w0.drawn = 0) (F : Res) (b md : Nat) (e : TypeId) (fr : Nat × Nat) (od : Obj) (f : Int → Option Sec) (ho : MapF (Value.int .i64) jE f od) (hf : ∀ k, f k ≠ none → 0 ≤ k ∧ k < 1064) :
    FnT Tryz.prog w0 49 #[.func (.func 90) [].toArray [.pointer (some ⟨b, 0, none⟩)].toArray] ([(b, .cells [Value.map (some md)].toArray e fr)] :: [(md, od)] :: F)
      (fun v L' => ∃ ks C, SlC 3 1 v ks.length (iV ks) C ∧ ks.Nodup ∧ (∀ k, k ∈ ks ↔ f k ≠ none) ∧ L' = C :: [(b, .cells [Value.map (some md)].toArray e fr)] :: [(md, od)] :: F) := by
  refine ⟨fun w hw => ?_⟩
  obtain ⟨al, ⟨es, clock, rfl, he⟩, hg⟩ := ho
  have hk : ∀ k, k ∈ zJ al ↔ f k ≠ none := fun k => by
    rw [← hg k]
    have := Q8 (l := al) (q := k)
    constructor
    · intro h1 h2; exact this.1 h2 h1
    · intro h1; exact Classical.byContradiction fun h2 => h1 (this.2 h2)
  have hb : w.heap[b]? = some (.cells [Value.map (some md)].toArray e fr) := hw.at_ (b, _) (by simp)
  have hm : w.heap[md]? = some (.map es.toArray clock) := hw.at_ (md, _) (by simp)
  have hown := own_keys hm he (fun k hk' => hf k ((hk k).1 hk'))
  have hlen : al.length ≤ 1064 := by
    obtain ⟨_, _, h1, _, h2, _⟩ := hown
    rw [hm] at h1; cases h1
    rw [← k8 he]; simpa using h2
  have hcell : w.cell? ⟨b, 0, none⟩ = some (.map (some md)) := by rw [Yu hb]; rfl
  have hcall : Calls Tryz.prog 49 #[.func (.func 90) #[] #[.pointer (some ⟨b, 0, none⟩)]] w _ := calls_of_every_depth (L := [49, 82, 90]) (n := 3) fun Dp => Kg (g := 90) [49, 82, 90] (by simp) (by simp) (by simp) #[.pointer (some ⟨b, 0, none⟩)] Dp (fun ss => ss.Perm (intKeys (V6 al))) (Maps.size (V6 al)) (by rw [JM]; simp [maxLen]; omega) (by rw [JM]; omega) w
      (gives_key Dp b md 1064 (V6 al) w (hw.lt (p := (b, .cells [Value.map (some md)].toArray e fr)) (by simp)) hcell hown)
  refine hcall.mono fun e' w' ⟨v, ss, h1, h2, h3, h4, h5⟩ => ?_
  obtain ⟨C, h6, h7⟩ := JB (C := []) hd hw h5 h3
  have hp := h2.trans (keyD_keys al)
  exact ⟨v, _, h1, ⟨ss, C, h6, hp.nodup_iff.2 he.nodup, fun k => by rw [← hk]; exact hp.mem_iff, rfl⟩, h7⟩
theorem shelfI (hd : w0.drawn = 0) : jL w0 := ⟨shelf_sortI w0, shelf_keys hd⟩
end
end Go.Proofs.YtjikpomndbkfgaaGreatDoor
namespace Go.Proofs
open Go.Shelf Go.RowKit Go.Lib Go.Sort
def Tryz.laysSortF_ren : Go.Shelf.Ren := ⟨fun | 6 => 79 | 15 => 85 | 14 => 105 | 28 => 115 | 29 => 116 | 20 => 128 | 21 => 129 | 22 => 130 | 23 => 131 | 24 => 132 | 25 => 133 | 26 => 134 | 27 => 135 | 46 => 151 | 47 => 137 | 48 => 138 | 49 => 152 | 50 => 153 | 57 => 160 | n => n, fun | 22 => 110 | 24 => 100 | 25 => 152 | 3 => 3 | 39 => 158 | 0 => 0 | 53 => 34 | 55 => 199 | 4 => 4 | 46 => 190 | 45 => 189 | 50 => 195 | 5 => 5 | 9 => 9 | 66 => 220 | 70 => 224 | 76 => 252 | 77 => 253 | n => n, fun | n => n⟩
theorem Tryz.laysSortF : Go.Proofs.SlLaysF0.n6 Tryz.prog Tryz.laysSortF_ren where
  mixed := by kernel_rfl
  f6 := ⟨ "slices.SortFunc[[]drumlin/node.part,drumlin/node.part]", by decide, Tryz.func79.trans (congrArg some (by kernel_rfl))⟩
  f14 := ⟨ "slices.pdqsortCmpFunc[drumlin/node.part]", by decide, Tryz.func105.trans (congrArg some (by kernel_rfl))⟩
  f15 := Tryz.func85.trans (congrArg some (by kernel_rfl))
  f20 := ⟨ "slices.insertionSortCmpFunc[drumlin/node.part]", by decide, Tryz.func128.trans (congrArg some (by kernel_rfl))⟩
  f21 := ⟨ "slices.heapSortCmpFunc[drumlin/node.part]", by decide, Tryz.func129.trans (congrArg some (by kernel_rfl))⟩
  f22 := ⟨ "slices.breakPatternsCmpFunc[drumlin/node.part]", by decide, Tryz.func130.trans (congrArg some (by kernel_rfl))⟩
  f23 := ⟨ "slices.choosePivotCmpFunc[drumlin/node.part]", by decide, Tryz.func131.trans (congrArg some (by kernel_rfl))⟩
  f24 := ⟨ "slices.reverseRangeCmpFunc[drumlin/node.part]", by decide, Tryz.func132.trans (congrArg some (by kernel_rfl))⟩
  f25 := ⟨ "slices.partialInsertionSortCmpFunc[drumlin/node.part]", by decide, Tryz.func133.trans (congrArg some (by kernel_rfl))⟩
  f26 := ⟨ "slices.partitionEqualCmpFunc[drumlin/node.part]", by decide, Tryz.func134.trans (congrArg some (by kernel_rfl))⟩
  f27 := ⟨ "slices.partitionCmpFunc[drumlin/node.part]", by decide, Tryz.func135.trans (congrArg some (by kernel_rfl))⟩
  f28 := Tryz.func115.trans (congrArg some (by kernel_rfl))
  f29 := Tryz.func116.trans (congrArg some (by kernel_rfl))
  f46 := ⟨ "slices.siftDownCmpFunc[drumlin/node.part]", by decide, Tryz.func151.trans (congrArg some (by kernel_rfl))⟩
  f47 := Tryz.func137.trans (congrArg some (by kernel_rfl))
  f48 := Tryz.func138.trans (congrArg some (by kernel_rfl))
  f49 := ⟨ "slices.medianAdjacentCmpFunc[drumlin/node.part]", by decide, Tryz.func152.trans (congrArg some (by kernel_rfl))⟩
  f50 := ⟨ "slices.medianCmpFunc[drumlin/node.part]", by decide, Tryz.func153.trans (congrArg some (by kernel_rfl))⟩
  f57 := ⟨ "slices.order2CmpFunc[drumlin/node.part]", by decide, Tryz.func160.trans (congrArg some (by kernel_rfl))⟩
  t0 := Tryz.underlying0
  a0 := Tryz.isAgg0
  z0 := Tryz.sizeOf0
  v0 := Tryz.zeroValue0
  t3 := Tryz.underlying3
  a3 := Tryz.isAgg3
  z3 := Tryz.sizeOf3
  v3 := Tryz.zeroValue3
  t4 := Tryz.underlying4
  a4 := Tryz.isAgg4
  z4 := Tryz.sizeOf4
  v4 := Tryz.zeroValue4
  t5 := Tryz.underlying5
  a5 := Tryz.isAgg5
  z5 := Tryz.sizeOf5
  v5 := Tryz.zeroValue5
  t9 := Tryz.underlying9
  a9 := Tryz.isAgg9
  z9 := Tryz.sizeOf9
  v9 := Tryz.zeroValue9
  t22 := Tryz.underlying110
  a22 := Tryz.isAgg110
  z22 := Tryz.sizeOf110
  v22 := Tryz.zeroValue110
  t25 := Tryz.underlying152
  a25 := Tryz.isAgg152
  z25 := Tryz.sizeOf152
  v25 := Tryz.zeroValue152
  t39 := Tryz.underlying158
  a39 := Tryz.isAgg158
  z39 := Tryz.sizeOf158
  v39 := Tryz.zeroValue158
  t45 := Tryz.underlying189
  a45 := Tryz.isAgg189
  z45 := Tryz.sizeOf189
  v45 := Tryz.zeroValue189
  t46 := Tryz.underlying190
  a46 := Tryz.isAgg190
  z46 := Tryz.sizeOf190
  v46 := Tryz.zeroValue190
  t50 := Tryz.underlying195
  a50 := Tryz.isAgg195
  z50 := Tryz.sizeOf195
  v50 := Tryz.zeroValue195
  t53 := Tryz.underlying34
  a53 := Tryz.isAgg34
  z53 := Tryz.sizeOf34
  v53 := Tryz.zeroValue34
  t55 := Tryz.underlying199
  a55 := Tryz.isAgg199
  z55 := Tryz.sizeOf199
  v55 := Tryz.zeroValue199
  t66 := Tryz.underlying220
  a66 := Tryz.isAgg220
  z66 := Tryz.sizeOf220
  v66 := Tryz.zeroValue220
  t70 := Tryz.underlying224
  a70 := Tryz.isAgg224
  z70 := Tryz.sizeOf224
  v70 := Tryz.zeroValue224
  t76 := Tryz.underlying252
  a76 := Tryz.isAgg252
  z76 := Tryz.sizeOf252
  v76 := Tryz.zeroValue252
  t77 := Tryz.underlying253
  a77 := Tryz.isAgg253
  z77 := Tryz.sizeOf253
  v77 := Tryz.zeroValue253
end Go.Proofs
namespace Go.Proofs.YtjikpomndbkfgaaGreatDoor
open Go Go.Sx Go.Nd
set_option maxRecDepth 10000
section
variable {w0 : World} {L F : Res}
theorem JC {k : Int × Int} (h : qw k) : (Jt k.1).getD 0 = KF k.1 ∧ 0 ≤ KF k.1 ∧ KF k.1 ≤ 4 := by
  rcases h with ⟨h, -⟩ | rfl | rfl | rfl | ⟨h, -⟩
  · rw [h]; decide
  · decide
  · decide
  · decide
  · rw [h]; decide
theorem VJ {k : Int × Int} (h : qw k) : 0 ≤ k.2 ∧ k.2 < 1064 := by
  rcases h with ⟨-, h1, h2⟩ | rfl | rfl | rfl | ⟨-, h1, h2⟩
  · exact ⟨h1, h2⟩
  · decide
  · decide
  · decide
  · omega
theorem cmp_ok (b r : Nat) (o : Obj) (ho : MapF (Value.int .i64) (Value.int .i64) Jt o) (x y : Int × Int) (hx : qw x) (hy : qw y) :
    FnT Tryz.prog w0 80 #[.agg (zK x).toArray, .agg (zK y).toArray, .pointer (some ⟨b, 0, none⟩)] ([(b, .cells [Value.map (some r)].toArray 150 (0, 0))] :: [(r, o)] :: F)
      (fun v L' => v = .int .i64 (kZ x y) ∧ L' = [(b, .cells [Value.map (some r)].toArray 150 (0, 0))] :: [(r, o)] :: F) := by
  have h1 := JC hx
  have h2 := JC hy
  have h3 := VJ hx
  have h4 := VJ hy
  rw [show zK x = [.int .i64 x.1, .int .i64 x.2] from rfl, show zK y = [.int .i64 y.1, .int .i64 y.2] from rfl]
  refine qi (E0 := [(0, _), (1, _), (2, _)]) (N := 25) Tryz.func80 rfl rfl rfl rfl ?_
  refine qO <| qG (wq rfl) ?_
  rintro t3 _ ⟨b3, rfl, rfl⟩
  refine qG (wq rfl) ?_
  rintro t4 _ ⟨b4, rfl, rfl⟩
  refine qE rfl <| qF <| qN <| qO <| q9 (qB rfl) <| q9 (qI rfl rfl) <| q9 (qB rfl) <| q9 (qI rfl rfl) <| q9 (zE rfl rfl) <| qF <| qM rfl (fun hc1 => ?_) (fun hc1 => ?_)
  ·
   refine qO <| q9 (qI rfl rfl) <| q9 (qB rfl) <| q9 (qI rfl rfl) <| q9 (yP (z := 0) (q := x.1) rfl rfl ho) <| q9 (qI rfl rfl) <| q9 (qB rfl) <| q9 (qI rfl rfl) <| q9 (yP (z := 0) (q := y.1) rfl rfl ho) <| q9 (zt rfl rfl (by omega)) <| qE rfl <| qF <| qy <| qv <| wC ([(b, .cells [Value.map (some r)].toArray 150 (0, 0))] :: [(r, o)] :: F) (.inl rfl) rfl (qu rfl) ?_
   exact ⟨by unfold kZ; rw [if_pos hc1, h1.1, h2.1], rfl⟩
  ·
   refine qZ <| qJ <| qO <| q9 (qB rfl) <| q9 (qI rfl rfl) <| q9 (qB rfl) <| q9 (qI rfl rfl) <| q9 (zt rfl rfl (by omega)) <| qE rfl <| qF <| qy <| wC ([(b, .cells [Value.map (some r)].toArray 150 (0, 0))] :: [(r, o)] :: F) (.inl rfl) rfl (qu rfl) ?_
   exact ⟨by unfold kZ; rw [if_neg hc1], rfl⟩
theorem call_pure {P : Program} {f : FuncId} {args : Array Value} {v : Value} {b r : Nat} {ob o : Obj} (hf : ∀ (w0 : World) (F : Res), FnT P w0 f args ([(b, ob)] :: [(r, o)] :: F) (fun v' L' => v' = v ∧ L' = [(b, ob)] :: [(r, o)] :: F))
    {W : World} (hb : W.heap[b]? = some ob) (hr : W.heap[r]? = some o) (hne : b ≠ r) : Calls P f args W (fun e w' => e = .returned v ∧ ∃ q os', w' = Go.Sort.grow (W.drewN q) os') := by
  let rest : qV := ((List.range W.heap.size).filter (fun i => decide (i ≠ b ∧ i ≠ r))).filterMap (fun i => (W.heap[i]?).map (fun z => (i, z)))
  have hmem : ∀ p : VC, p ∈ rest ↔ (p.1 ≠ b ∧ p.1 ≠ r ∧ W.heap[p.1]? = some p.2) := by
    intro p
    simp only [rest, List.mem_filterMap, List.mem_filter, List.mem_range, decide_eq_true_eq, Option.map_eq_some_iff]
    constructor
    · rintro ⟨i, ⟨h1, h2, h3⟩, z, hz, rfl⟩; exact ⟨h2, h3, hz⟩
    · rintro ⟨h1, h2, h3⟩
      exact ⟨p.1, ⟨(Array.getElem?_eq_some_iff.1 h3).1, h1, h2⟩, p.2, h3, rfl⟩
  have hnd : (rest.map (·.1)).Nodup := by
    have e : rest.map (·.1) = ((List.range W.heap.size).filter (fun i => decide (i ≠ b ∧ i ≠ r))) := by
      have key : ∀ l : List Nat, (∀ i ∈ l, i < W.heap.size) → (l.filterMap (fun i => (W.heap[i]?).map (fun z => (i, z)))).map (·.1) = l := by
        intro l
        induction l with
        | nil => intro _; rfl
        | cons i l ih =>
          intro h
          have hi := h i (by simp)
          rw [List.filterMap_cons, Array.getElem?_eq_getElem hi]
          simp only [Option.map_some, List.map_cons]
          rw [ih (fun j hj => h j (by simp [hj]))]
      exact key _ (fun i hi => List.mem_range.1 (List.mem_filter.1 hi).1)
    rw [e]; exact List.nodup_range.filter _
  have hown : Own W ([(b, ob)] :: [(r, o)] :: [rest]) W := by
    refine ⟨rfl, rfl, rfl, Nat.le_refl _, Nat.le_refl _, ?_, ?_⟩
    · simp only [List.flatten_cons, List.flatten_nil, List.append_nil, List.singleton_append, List.map_cons, List.nodup_cons, List.mem_cons, List.mem_map, not_or]
      refine ⟨⟨hne, fun ⟨p, hp, e⟩ => ((hmem p).1 hp).1 e⟩, fun ⟨p, hp, e⟩ => ((hmem p).1 hp).2.1 e, hnd⟩
    · intro p hp
      simp only [List.flatten_cons, List.flatten_nil, List.append_nil, List.singleton_append, List.mem_cons] at hp
      rcases hp with rfl | rfl | hp
      · exact hb
      · exact hr
      · exact ((hmem p).1 hp).2.2
  refine ((hf W [rest]).h W hown).mono fun e w' ⟨v', L', h1, ⟨h2, h3⟩, h4⟩ => ?_
  subst h2; subst h3
  refine ⟨h1, w'.drawn - W.drawn, w'.heap.extract W.heap.size w'.heap.size, ?_⟩
  have hsz := h4.size
  have hdr := h4.drawn
  have hh : w'.heap = W.heap ++ w'.heap.extract W.heap.size w'.heap.size := by
    apply Array.ext_getElem?
    intro i
    by_cases hi : i < W.heap.size
    · rw [Array.getElem?_append_left hi]
      by_cases e1 : i = b
      · rw [e1, hb]; exact h4.at_ (b, ob) (by simp)
      · by_cases e2 : i = r
        · rw [e2, hr]; exact h4.at_ (r, o) (by simp)
        · have hz : W.heap[i]? = some W.heap[i] := Array.getElem?_eq_getElem hi
          rw [hz]; exact h4.at_ (i, W.heap[i]) (by simp; exact .inr (.inr ((hmem (i, W.heap[i])).2 ⟨e1, e2, hz⟩)))
    · rw [Array.getElem?_append_right (by omega), Array.getElem?_extract]
      by_cases h5 : i < w'.heap.size
      · rw [if_pos (by omega)]; congr 1; omega
      · rw [if_neg (by omega), Array.getElem?_eq_none (by omega)]
  show w' = { W with drawn := W.drawn + (w'.drawn - W.drawn), heap := W.heap ++ _ }
  rw [← hh, show W.drawn + (w'.drawn - W.drawn) = w'.drawn from by omega, ← h4.os, ← h4.tape, ← h4.output]
abbrev PT := {k : Int × Int // qw k}
instance : Inhabited PT := ⟨⟨(2, 0), .inr (.inl rfl)⟩⟩
def jC (k : PT) : List Value := zK k.1
def Zq (x y : PT) : Int := kZ x.1 y.1
theorem xV (x y : Int × Int) : kZ y x = - kZ x y := by
  unfold kZ
  by_cases h : x.1 = y.1
  · rw [if_neg (by simp [h]), if_neg (by simp [h])]; omega
  · rw [if_pos (Ne.symm h), if_pos h]; omega
theorem swo_PT : Go.Sort.SWO (Go.Proofs.ltOf Zq) := by
  refine ⟨fun x => ?_, fun x y z h1 h2 => ?_, fun x y z h1 h2 => ?_⟩
  · unfold Go.Proofs.ltOf Zq
    have := xV x.1 x.1
    exact decide_eq_false (by omega)
  · unfold Go.Proofs.ltOf Zq at *
    have h1 := of_decide_eq_true h1
    have h2 := of_decide_eq_true h2
    have a := WF x.2 y.2 z.2 (by omega) (by omega)
    refine decide_eq_true ?_
    refine Classical.byContradiction fun hn => ?_
    have e : kZ z.1 x.1 ≤ 0 := by have := xV x.1 z.1; omega
    have b := WF y.2 z.2 x.2 (by omega) e
    have := xV x.1 y.1
    omega
  · unfold Go.Proofs.ltOf Zq at *
    have h1 := of_decide_eq_false h1
    have h2 := of_decide_eq_false h2
    refine decide_eq_false ?_
    have e1 : kZ y.1 x.1 ≤ 0 := by have := xV x.1 y.1; omega
    have e2 : kZ z.1 y.1 ≤ 0 := by have := xV y.1 z.1; omega
    have := WF z.2 y.2 x.2 e2 e1
    have := xV x.1 z.1
    omega
theorem KZ (xs : List PT) : Go.Sort.flatK jC 2 xs.toArray = (xs.flatMap jC).toArray := by
  apply Array.ext_getElem?
  intro t
  have hlen := kR (enc := jC) (sz := 2) (fun _ => rfl) xs
  by_cases ht : t < xs.length * 2
  · have hj : t / 2 < xs.length := by omega
    have h1 := KY (enc := jC) (sz := 2) (fun _ => rfl) xs [] (j := t / 2) (k := t % 2) (List.getElem?_eq_getElem hj) (by omega)
    rw [List.append_nil, show t / 2 * 2 + t % 2 = t from by omega] at h1
    have h6 : (xs.flatMap jC).toArray[t]? = (xs.flatMap jC)[t]? := by simp
    rw [h6, h1]
    have h2 := Go.Sort.get_flatK jC 2 xs.toArray t (by simpa using ht)
    have h3 : t < (Go.Sort.flatK jC 2 xs.toArray).size := by rw [Go.Sort.size_flatK]; simpa using ht
    rw [getElem!_pos _ t h3] at h2
    rw [Array.getElem?_eq_getElem h3, h2]
    have h4 : xs.toArray[t / 2]! = xs[t / 2] := by simp [hj]
    rw [h4]
    have h5 : t % 2 < (jC xs[t / 2]).length := by show _ < 2; omega
    rw [List.getElem?_eq_getElem h5, getElem!_pos (jC xs[t / 2]) (t % 2) h5]
  · have e1 : (Go.Sort.flatK jC 2 xs.toArray).size ≤ t := by rw [Go.Sort.size_flatK, List.size_toArray]; omega
    have e2 : (xs.flatMap jC).toArray.size ≤ t := by rw [List.size_toArray, hlen]; omega
    rw [Array.getElem?_eq_none e1, Array.getElem?_eq_none e2]
theorem att_map : ∀ (xs : List (Int × Int)), (∀ x ∈ xs, qw x) → ∃ ys : List PT, ys.map (·.1) = xs := by
  intro xs
  induction xs with
  | nil => intro _; exact ⟨[], rfl⟩
  | cons x xs ih =>
    intro h
    obtain ⟨ys, hy⟩ := ih (fun z hz => h z (by simp [hz]))
    exact ⟨⟨x, h x (by simp)⟩ :: ys, by rw [List.map_cons, hy]⟩
theorem Xt (ys : List PT) : ys.flatMap jC = (ys.map (·.1)).flatMap zK := by rw [List.flatMap_map]; rfl
theorem srt_PT (ys : List PT) : (ys.mergeSort (fun x y => !(Go.Proofs.ltOf Zq) y x)).map (·.1) = Y3 (ys.map (·.1)) := by
  unfold Y3
  refine List.map_mergeSort (r := fun x y => !(Go.Proofs.ltOf Zq) y x) (s := fun a b => decide (kZ a b ≤ 0)) (f := fun x : PT => x.1) (l := ys) (fun x _ y _ => ?_)
  unfold Go.Proofs.ltOf Zq
  have := xV x.1 y.1
  by_cases h : kZ y.1 x.1 < 0
  · rw [decide_eq_true h, decide_eq_false (by omega)]; rfl
  · rw [decide_eq_false h, decide_eq_true (by omega)]; rfl
theorem shelf_sortP (w0 : World) (F : Res) (u : Value) (xs : List (Int × Int)) (C : qV) (b r : Nat) (o : Obj) (hs : SlC 100 2 u xs.length (xs.flatMap zK) C) (hn : xs.length ≤ 1000000) (hx : ∀ x ∈ xs, qw x) (ho : MapF (Value.int .i64) (Value.int .i64) Jt o) :
    FnT Tryz.prog w0 79 #[u, .func (.func 80) #[] #[.pointer (some ⟨b, 0, none⟩)]] (C :: [(b, .cells [Value.map (some r)].toArray 150 (0, 0))] :: [(r, o)] :: F)
      (fun v L' => v = .tuple #[] ∧ ∃ C', SlC 100 2 u xs.length ((Y3 xs).flatMap zK) C' ∧ L' = C' :: [(b, .cells [Value.map (some r)].toArray 150 (0, 0))] :: [(r, o)] :: F) := by
  rcases hs with ⟨rfl, h0, h1, rfl⟩ | ⟨blk, cap, sp, rfl, hcs, rfl, hcap, hnc⟩
  · refine ⟨fun w hw => ?_⟩
    have hx0 : xs = [] := List.length_eq_zero_iff.1 h0
    subst hx0
    refine (Go.Proofs.AnyF.slices_SortFunc_none Go.Proofs.Tryz.laysSortF none 0 _ w).mono fun e w' ⟨h2, h3⟩ => ?_
    subst h3
    exact ⟨_, _, h2, ⟨rfl, [], by rw [show Y3 ([] : List (Int × Int)) = [] from by simp [Y3]]; exact SlC.nil 100 2, rfl⟩, hw⟩
  · refine ⟨fun w hw => ?_⟩
    obtain ⟨ys, hys⟩ := att_map xs hx
    have hyl : ys.length = xs.length := by rw [← hys, List.length_map]
    have hfl : xs.flatMap zK = ys.flatMap jC := by rw [Xt, hys]
    have hw' : Own w0 ([(blk, .cells ((ys.flatMap jC).map id ++ sp).toArray 100 (0, 0))] :: [(b, .cells [Value.map (some r)].toArray 150 (0, 0))] :: [(r, o)] :: F) w := by rw [List.map_id, ← hfl]; exact hw
    have hne : b ≠ r := by
      have := hw.nodup
      simp at this; exact fun e => this.2.1.1 e
    have key : ∀ (m : Nat) (os : Array Obj) (zs : List PT), zs.length = ys.length → Own w0 ([(blk, .cells ((zs.flatMap jC).map id ++ sp).toArray 100 (0, 0))] :: [(b, .cells [Value.map (some r)].toArray 150 (0, 0))] :: [(r, o)] :: F) (sortWorldK jC 2 w blk 0 m zs.toArray os) := by
      intro m os zs hz
      unfold Go.Proofs.sortWorldK Go.Sort.putRowK
      rw [KZ]
      exact KE (enc := id) hw' (by rw [kR (enc := jC) (sz := 2) (fun _ => rfl), kR (enc := jC) (sz := 2) (fun _ => rfl), hz])
    have hcmp : Go.Proofs.CmpLays Tryz.prog 80 #[.pointer (some ⟨b, 0, none⟩)] jC 2 Zq blk 0 ys.toArray.size w := by
      intro m os dk hdk x y
      obtain ⟨zs⟩ := dk
      have ho' := key m os zs (by simpa using hdk)
      exact call_pure (fun w0 F => cmp_ok b r o ho x.1 y.1 x.2 y.2) (ho'.at_ (b, _) (by simp)) (ho'.at_ (r, o) (by simp)) hne
    have hH : Go.Sort.HoldsK jC 2 w blk 0 ys.toArray := by
      unfold Go.Sort.HoldsK
      rw [KZ]
      exact JA (enc := id) hw'
    have hA : ∀ w, (isAgg 100).run Tryz.prog w = .ok true w := fun w => by kernel_rfl
    have hZ : ∀ w, (Go.sizeOf 100).run Tryz.prog w = .ok 2 w := fun w => by kernel_rfl
    have hE : ∀ args w, (callFunc 80 args).run Tryz.prog w = .ok (.enter 80 args) w := (inferInstance : Go.Sx.Enters Tryz.prog 80).h
    have hall := Go.Proofs.AnyQ.slices_SortFunc_total Go.Proofs.Tryz.laysSortF 2 hA hZ jC (fun _ => rfl)
    have h1c : ∀ x, ∀ v ∈ jC x, v.oneCell' = true := fun x v hv => by
      simp only [jC, zK, List.mem_cons, List.not_mem_nil, or_false] at hv
      rcases hv with rfl | rfl <;> rfl
    have hT : ∀ x y, (Go.Proofs.ltOf Zq) x y = false → (Go.Proofs.ltOf Zq) y x = false → x = y := fun x y h1 h2 => by
      unfold Go.Proofs.ltOf Zq at h1 h2
      have h1 := of_decide_eq_false h1
      have h2 := of_decide_eq_false h2
      have := xV x.1 y.1
      exact Subtype.ext (JT x.2 y.2 (by omega) (by omega))
    have hblk : blk < w.heap.size := hw.lt (p := (blk, _)) (by simp; exact .inl rfl)
    have hfin := hall h1c Zq swo_PT 80 #[.pointer (some ⟨b, 0, none⟩)] blk 0 cap ys.toArray w hE hcmp hH hblk (by simp; omega) hT
    have hsz : ys.toArray.size = xs.length := by simp [hyl]
    rw [hsz] at hfin
    refine hfin.mono fun e w' ⟨h2, k, os, h3⟩ => ?_
    have hml : (ys.mergeSort (fun x y => !(Go.Proofs.ltOf Zq) y x)).length = ys.length := List.length_mergeSort _
    have hk := key k os (ys.mergeSort (fun x y => !(Go.Proofs.ltOf Zq) y x)) hml
    rw [List.map_id, Xt, srt_PT, hys] at hk
    have hsl : (Y3 xs).length = xs.length := List.length_mergeSort _
    refine ⟨_, _, h2, ⟨rfl, _, ?_, rfl⟩, by rw [h3]; exact hk⟩
    refine .inr ⟨blk, cap, sp, rfl, by rw [kR y9, hsl], rfl, ?_, hnc⟩
    rw [List.length_append, kR y9] at hcap
    rw [List.length_append, kR y9, hsl]; exact hcap
theorem shelfP : QA := ⟨shelf_sortP⟩
end
open Go Go.Sx Go.Nd Go.RowKit Go.Deep Go.ChangeShapes Go.WideShapes Go.ChangeAt
section
variable {w0 : World} {L F : Res}
end
set_option maxRecDepth 100000
section
variable {w0 : World} {L F : Res}
theorem own_knob : ownKnob Tryz.prog.godebug = none := by kernel_rfl
theorem laid_out : laidOutB Tryz.prog = true := by kernel_rfl
theorem door_met (os : Os) (args : Array Value) : laidMetH Tryz.prog JI ((World.doorLaid Tryz.prog 400 os).forCall (fun _ _ => 0) ⟨#[], args, []⟩).memory :=
  laidMetH_of_parts3 (fuel := 8) (laidMet_of_run' 8 (by kernel_rfl) (by kernel_rfl)) (by kernel_rfl) (by kernel_rfl)
theorem trodAll_cons {W : World} {H : Type} {enc : TypeId × Value → H} {sp : Nat → Bool} {base : Nat} {held : Bool} {t : TypeId} {ts : List TypeId} {vs : List Value} {ds : List (DataW H)} {p : List MemPlace} (h : DataW.TrodAll enc Tryz.prog W base sp held (t :: ts) vs ds p) :
    ∃ v vs' d ds' p0 q, vs = v :: vs' ∧ ds = d :: ds' ∧ DataW.Trod enc Tryz.prog W base sp held t v d p0 ∧ DataW.TrodAll enc Tryz.prog W base sp held ts vs' ds' q ∧ p = p0 ++ q := by
  cases vs with
  | nil => cases ds <;> exact h.elim
  | cons v vs =>
    cases ds with
    | nil => exact h.elim
    | cons d ds =>
      obtain ⟨p0, q, h1, h2, h3⟩ := h
      exact ⟨v, vs, d, ds, p0, q, rfl, rfl, h1, h2, h3⟩
theorem trodAll_nil {W : World} {H : Type} {enc : TypeId × Value → H} {sp : Nat → Bool} {base : Nat} {held : Bool} {vs : List Value} {ds : List (DataW H)} {p : List MemPlace} (h : DataW.TrodAll enc Tryz.prog W base sp held [] vs ds p) : vs = [] ∧ ds = [] ∧ p = [] := by
  cases vs with
  | nil => cases ds with
    | nil => exact ⟨rfl, rfl, h⟩
    | cons d ds => exact h.elim
  | cons v vs => cases ds <;> exact h.elim
theorem acts_of {W : World} {R : Res} {H : Type} {enc : TypeId × Value → H} {base : Nat} {v : Value} {d : DataW H} {p : List MemPlace} (hall : ∀ i o, W.heap[i]? = some o → (i, o) ∈ R.flatten) (hv : Value.okWide Tryz.prog W .any base 22 v)
    (h : DataW.Trod enc Tryz.prog W 0 (fun _ => true) true 22 v d p) : ∃ (q : Option Addr) (c : Nat) (acts : List ZR), v = .slice q acts.length c ∧ XF R q c acts ∧ (acts.length : Int) ≤ 9223372036854775807 := by
  obtain ⟨a0, len0, cap0, rfl⟩ := okWide_slice (e := 25) (by kernel_rfl) hv
  obtain ⟨f, hf⟩ := h
  obtain ⟨qa, ca, acts, hcs0, hacts, hlen⟩ := acts_open hall hf
  simp only [Value.cells, List.cons.injEq, Value.slice.injEq, and_true] at hcs0
  obtain ⟨rfl, rfl, rfl⟩ := hcs0
  exact ⟨_, _, acts, rfl, hacts, hlen⟩
theorem und4 : Tryz.prog.underlying 4 = some .bool := by kernel_rfl
theorem read_back {W W' : World} {H : Type} {enc : TypeId × Value → H} {t : TypeId} {v : Value} {d : DataW H} {p : List MemPlace} (hr : Tryz.prog.readableRec t = true) (ht : t < Tryz.prog.types.size) (h : DataW.Trod enc Tryz.prog W 0 (fun _ => true) true t v d p)
    (hb : Below W.heap.size W W') (hlt : ∀ x ∈ p, x.block < W.heap.size) : DataW.Trod enc Tryz.prog W' 0 (fun b => decide (b < W.heap.size)) true t v d p := Below.trod laid_out hr ht h hb hlt
theorem M6 : Tryz.prog.readableRec 22 = true ∧ 22 < Tryz.prog.types.size := ⟨by kernel_rfl, of_decide_eq_true (by kernel_rfl)⟩
theorem seenF_nodup (l s : List (Int × Int × Int)) (h : s.Nodup) : (l.foldl kM s).Nodup := by
  induction l generalizing s with
  | nil => exact h
  | cons x l ih =>
    refine ih _ ?_
    unfold kM
    split
    · exact h
    · rename_i hx
      rw [List.nodup_append]
      exact ⟨h, by simp, fun a ha b hb => by simp at hb; subst hb; exact fun e => hx (e ▸ ha)⟩
theorem seenF_mem (l s : List (Int × Int × Int)) (x : Int × Int × Int) : x ∈ l.foldl kM s ↔ x ∈ s ∨ x ∈ l := by
  induction l generalizing s with
  | nil => simp
  | cons y l ih =>
    rw [List.foldl_cons, ih]
    unfold kM
    split
    · rename_i hy
      simp only [List.mem_cons]
      constructor
      · rintro (h | h)
        · exact .inl h
        · exact .inr (.inr h)
      · rintro (h | rfl | h)
        · exact .inl h
        · exact .inl hy
        · exact .inr h
    · simp only [List.mem_append, List.mem_cons, List.not_mem_nil, or_false, or_assoc]
theorem seenL_nodup (xs : List Int) : (xy xs).Nodup := seenF_nodup _ _ List.nodup_nil
theorem seenL_mem (xs : List Int) (x : Int × Int × Int) : x ∈ xy xs ↔ ∃ i ∈ xs, x ∈ WH i := by
  unfold xy
  rw [seenF_mem]
  simp [List.mem_flatMap]
def WP (k : Int × Int) : Int × Int × Int := if k.1 = 1 then wG k.2 else if k.1 = 5 then (2, k.2, -1) else if k.1 = 3 then (1, 0, -1) else (2, -1, -1)
theorem placeT_ge {i : Int} (h : InB i) : 0 ≤ (wG i).2.2 := by
  have h0 := h.1; have h1 := h.2
  unfold wG
  repeat' split
  all_goals dsimp only
  all_goals omega
theorem placeT_inj {i j : Int} (hi : InB i) (hj : InB j) (e : wG i = wG j) : i = j := by
  have h0 := hi.1; have h1 := hi.2; have h2 := hj.1; have h3 := hj.2
  unfold wG at e
  repeat' split at e
  all_goals simp only [Prod.mk.injEq] at e
  all_goals omega
theorem partT_inj {k q : Int × Int} (hk : qw k) (hq : qw q) (hk2 : k ≠ (2, 0)) (hq2 : q ≠ (2, 0)) (e : WP k = WP q) : k = q := by
  have big : ∀ i, InB i → ∀ a b : Int, wG i ≠ (a, b, -1) := fun i hi a b h => by have := placeT_ge hi; rw [h] at this; simp at this
  rcases wL hk with ⟨i, hi, rfl⟩ | rfl | rfl | rfl | ⟨i, hi, rfl⟩ <;> rcases wL hq with ⟨j, hj, rfl⟩ | rfl | rfl | rfl | ⟨j, hj, rfl⟩ <;>
    simp [WP] at e hk2 hq2 ⊢ <;> first | exact placeT_inj hi hj e | exact absurd e (big i hi _ _) | exact absurd e.symm (big j hj _ _) | omega
theorem parts_nodup : allParts.Nodup := by
  unfold allParts
  rw [List.nodup_append]
  refine ⟨?_, ?_, ?_⟩
  · exact List.pairwise_map.2 (List.nodup_range.imp fun {a b} h e => h (Int.ofNat_inj.1 (congrArg Prod.snd e)))
  · rw [List.nodup_append]
    refine ⟨List.pairwise_map.2 (List.nodup_range.imp fun {a b} h e => h (Int.ofNat_inj.1 (congrArg Prod.snd e))), by decide, fun a ha b hb => ?_⟩
    obtain ⟨i, _, rfl⟩ := List.mem_map.1 ha
    simp at hb
    rcases hb with rfl | rfl | rfl <;> simp
  · intro a ha b hb
    obtain ⟨i, _, rfl⟩ := List.mem_map.1 ha
    rcases List.mem_append.1 hb with hb | hb
    · obtain ⟨j, _, rfl⟩ := List.mem_map.1 hb; simp
    · simp at hb
      rcases hb with rfl | rfl | rfl <;> simp
end
section
variable {n : NS} {W : RS} {D : Int → Option Sec} {nx : Int}
def jh (W : RS) : List (Int × Int) := allParts.filter (fun k => decide (qn W k ≠ 0))
theorem idx_cpl (h : Cpl n W) (hI : Inv W D nx) : jd n = YG W := by
  unfold jd YG
  apply List.filter_congr
  intro i hi
  have hb : InB i := by
    obtain ⟨j, hj, rfl⟩ := List.mem_map.1 hi
    have := List.mem_range.1 hj
    exact ⟨by omega, by omega⟩
  have h1 := hI.has i hb
  have h2 := h.data i hb
  have h3 := h.at_ (1, i) (y3 hb)
  have h4 : qn W (1, i) = (W.all i).at_ := by unfold qn; rw [if_pos rfl]
  rw [Bool.eq_iff_iff, decide_eq_true_eq, h1]
  unfold x8
  rw [h3, h4, h2]
  by_cases hf : (W.all i).fresh = true
  · simp [hf]
  · simp [hf]
theorem seen_placed (hI : Inv W D nx) (hp : ∀ k, qw k → ¬ prR W k) : (xy (YG W)).Perm (((jh W).filter (fun k => decide (k ≠ (2, 0)))).map WP) := by
  have hmem : ∀ k, k ∈ (jh W).filter (fun k => decide (k ≠ (2, 0))) ↔ qw k ∧ qn W k ≠ 0 ∧ k ≠ (2, 0) := fun k => by
    unfold jh
    rw [List.mem_filter, List.mem_filter, zn, decide_eq_true_eq, decide_eq_true_eq, and_assoc]
  have hidx : ∀ i, i ∈ YG W ↔ InB i ∧ (W.all i).has = true := fun i => by
    unfold YG
    rw [List.mem_filter]
    constructor
    · rintro ⟨h1, h2⟩
      obtain ⟨j, hj, rfl⟩ := List.mem_map.1 h1
      have := List.mem_range.1 hj
      exact ⟨⟨by omega, by omega⟩, h2⟩
    · rintro ⟨⟨h1, h2⟩, h3⟩
      exact ⟨List.mem_map.2 ⟨i.toNat, List.mem_range.2 (by omega), by omega⟩, h3⟩
  have hat : ∀ i, InB i → ((W.all i).has = true ↔ qn W (1, i) ≠ 0) := fun i hi => by
    have h1 := hI.has i hi
    have h2 := hp (1, i) (y3 hi)
    rw [ko] at h2
    rw [h1, show qn W (1, i) = (W.all i).at_ from by unfold qn; rw [if_pos rfl]]
    simp [h2]
  have hplace : ∀ k, qw k → k.1 ≠ 1 → jQ W k → qn W k ≠ 0 := fun k hk h1 h2 => (hI.place k hk h1 (fun _ => h2)).resolve_right (hp k hk)
  refine (List.perm_ext_iff_of_nodup (seenL_nodup _) ?_).2 fun x => ?_
  · refine List.pairwise_map.2 (List.Pairwise.imp_of_mem (R := fun a b => a ≠ b) (fun {a b} ha hb hne e => ?_) ((parts_nodup.filter _).filter _))
    have h1 := (hmem a).1 ha
    have h2 := (hmem b).1 hb
    exact hne (partT_inj h1.1 h2.1 h1.2.2 h2.2.2 e)
  · rw [seenL_mem, List.mem_map]
    constructor
    · rintro ⟨i, hi, hx⟩
      obtain ⟨hb, hh⟩ := (hidx i).1 hi
      have h0 := hb.1; have h1 := hb.2
      unfold WH at hx
      simp only [List.mem_cons, List.mem_append] at hx
      rcases hx with rfl | hx | hx
      · exact ⟨(1, i), (hmem _).2 ⟨y3 hb, (hat i hb).1 hh, by simp⟩, by simp [WP]⟩
      · split at hx
        · rename_i hne
          simp only [List.mem_cons, List.not_mem_nil, or_false] at hx
          subst hx
          rcases (show (wG i).1 = 0 ∨ ((wG i).1 = 1 ∧ (wG i).2.1 = 0) ∨ ((wG i).1 = 2 ∧ 0 ≤ (wG i).2.1 ∧ (wG i).2.1 < 32) by
            unfold wG
            repeat' split
            all_goals dsimp only
            all_goals omega) with h | ⟨h, h'⟩ | ⟨h, h'⟩
          · exact absurd h hne
          · refine ⟨(3, 0), (hmem _).2 ⟨zT, hplace _ zT (by simp) ⟨i, hb, hh, .inr ?_⟩, by simp⟩, ?_⟩
            · unfold ww; rw [if_pos h]
            · rw [h, h']; simp [WP]
          · refine ⟨(5, (wG i).2.1), (hmem _).2 ⟨zz h', hplace _ (zz h') (by simp) ⟨i, hb, hh, .inr ?_⟩, by simp⟩, ?_⟩
            · unfold ww; rw [if_neg (by omega), if_pos h]
            · rw [h]; simp [WP]
        · cases hx
      · split at hx
        · rename_i h
          simp only [List.mem_cons, List.not_mem_nil, or_false] at hx
          subst hx
          refine ⟨(4, 0), (hmem _).2 ⟨zX, hplace _ zX (by simp) ⟨i, hb, hh, .inl ⟨rfl, ?_⟩⟩, by simp⟩, by simp [WP]⟩
          unfold ww; rw [if_neg (by omega), if_pos h]
        · cases hx
    · rintro ⟨k, hk, rfl⟩
      obtain ⟨h1, h2, h3⟩ := (hmem k).1 hk
      have hkid : k.1 ≠ 1 → jQ W k := fun hne => hI.kid k h1 hne (fun e => h3 (by rcases wL h1 with ⟨i, _, rfl⟩ | rfl | rfl | rfl | ⟨i, _, rfl⟩ <;> simp_all)) (.inl h2)
      rcases wL h1 with ⟨i, hi, rfl⟩ | rfl | rfl | rfl | ⟨j, hj, rfl⟩
      · exact ⟨i, (hidx i).2 ⟨hi, (hat i hi).2 h2⟩, by simp [WP, WH]⟩
      · exact absurd rfl h3
      · obtain ⟨i, hi, hh, hk⟩ := hkid (by simp)
        rcases hk with ⟨hk, _⟩ | hk
        · cases hk
        have hp1 : (wG i).1 = 1 := by
          unfold ww at hk
          split at hk
          · assumption
          · split at hk <;> cases hk
        refine ⟨i, (hidx i).2 ⟨hi, hh⟩, ?_⟩
        have h21 : (wG i).1 = 1 → (wG i).2.1 = 0 := by
          unfold wG
          repeat' split
          all_goals (dsimp only; intro h; omega)
        have h21 := h21 hp1
        unfold WH
        rw [if_pos (show (wG i).1 ≠ 0 by omega), hp1, h21]
        simp [WP]
      · obtain ⟨i, hi, hh, hk⟩ := hkid (by simp)
        have hp2 : (wG i).1 = 2 := by
          rcases hk with ⟨_, hk⟩ | hk
          · unfold ww at hk
            split at hk
            · cases hk
            · split at hk
              · assumption
              · cases hk
          · unfold ww at hk
            split at hk
            · cases hk
            · split at hk
              · cases hk
              · cases hk
        refine ⟨i, (hidx i).2 ⟨hi, hh⟩, ?_⟩
        unfold WH
        rw [if_pos hp2]
        simp [WP]
      · obtain ⟨i, hi, hh, hk⟩ := hkid (by simp)
        rcases hk with ⟨hk, _⟩ | hk
        · simp at hk
        have hp2 := WJ.1 hk
        refine ⟨i, (hidx i).2 ⟨hi, hh⟩, ?_⟩
        unfold WH
        rw [if_pos (show (wG i).1 ≠ 0 by omega), hp2.1, hp2.2]
        simp [WP]
theorem cost_placed (hI : Inv W D nx) (hp : ∀ k, qw k → ¬ prR W k) : JS (YG W) = (jh W).length := by
  have h1 := (seen_placed hI hp).length_eq
  have h2 : (2, 0) ∈ jh W := by
    unfold jh
    rw [List.mem_filter, zn, decide_eq_true_eq]
    exact ⟨y2, (hI.place (2, 0) y2 (by simp) (fun h => absurd rfl h)).resolve_right (hp _ y2)⟩
  have h3 : (jh W).Perm ((2, 0) :: (jh W).filter (fun k => decide (k ≠ (2, 0)))) := by
    have hn : (jh W).Nodup := parts_nodup.filter _
    refine (List.perm_ext_iff_of_nodup hn (List.nodup_cons.2 ⟨fun h => ?_, hn.filter _⟩)).2 fun k => ?_
    · have := (List.mem_filter.1 h).2; simp at this
    · rw [List.mem_cons, List.mem_filter, decide_eq_true_eq]
      constructor
      · intro h
        by_cases e : k = (2, 0)
        · exact .inl e
        · exact .inr ⟨h, e⟩
      · rintro (rfl | ⟨h, _⟩)
        · exact h2
        · exact h
  have h4 := h3.length_eq
  rw [List.length_map] at h1
  unfold JS
  rw [h1, h4, List.length_cons]
  omega
theorem at_some (h : Cpl n W) {k : Int × Int} (hk : qw k) : (n.at_ k).isSome = decide (qn W k ≠ 0) := by
  have h1 := h.at_ k hk
  cases e : n.at_ k with
  | none => rw [e] at h1; simp only [Option.getD_none] at h1; simp [← h1]
  | some a =>
    rw [e] at h1
    have h2 := h.ok.at2 k a e
    simp only [Option.getD_some] at h1
    simp [← h1]; omega
theorem filterMap_length {α β : Type} (f : α → Option β) (l : List α) : (l.filterMap f).length = (l.filter (fun x => (f x).isSome)).length := by
  induction l with
  | nil => rfl
  | cons x l ih =>
    cases e : f x with
    | none => simp [List.filterMap_cons, List.filter_cons, e, ih]
    | some v => simp [List.filterMap_cons, List.filter_cons, e, ih]
theorem sectors_len (h : Cpl n W) (hg : n.gone = []) : (zr n).length = (jh W).length := by
  unfold zr jh
  rw [Ws, hg, List.append_nil, filterMap_length]
  congr 1
  exact List.filter_congr fun k hk => at_some h ((zn k).1 hk)
theorem Ko (h : Cpl n W) {k : Int × Int} (hk : qw k) {a : Int} (e : n.at_ k = some a) : qn W k = a ∧ a ≠ 0 := by
  have h1 := h.at_ k hk
  have h2 := h.ok.at2 k a e
  rw [e, Option.getD_some] at h1
  exact ⟨h1.symm, by omega⟩
theorem Z5 (h : Cpl n W) (hI : Inv W D nx) (hg : n.gone = []) : (zr n).Nodup := by
  unfold zr
  rw [hg, List.append_nil]
  refine (List.mergeSort_perm _ _).nodup_iff.2 ?_
  refine List.pairwise_filterMap.2 (List.Pairwise.imp_of_mem (R := fun a b => a ≠ b) (fun {a b} ha hb hne => ?_) parts_nodup)
  intro x hx y hy e
  subst e
  have h1 := Ko h ((zn a).1 ha) hx
  have h2 := Ko h ((zn b).1 hb) hy
  exact hne (hI.inj a b ((zn a).1 ha) ((zn b).1 hb) (by rw [h1.1]; exact h1.2) (h1.1.trans h2.1.symm))
theorem YT (h : Cpl n W) (hI : Inv W D nx) (hg : n.gone = []) (a : Int) : a ∈ zr n ↔ D a ≠ none := by
  have hgW : W.gone = [] := by have := h.gone; rw [hg] at this; exact List.nil_perm.1 this
  unfold zr
  rw [hg, List.append_nil, (show (srt (allParts.filterMap n.at_)).Perm (allParts.filterMap n.at_) from List.mergeSort_perm _ _).mem_iff, List.mem_filterMap, hI.keys, hgW]
  constructor
  · rintro ⟨k, hk, e⟩
    have hk := (zn k).1 hk
    have h1 := Ko h hk e
    exact .inr ⟨k, hk, h1.1, h1.2⟩
  · rintro (h1 | ⟨k, hk, rfl, h2⟩)
    · cases h1
    refine ⟨k, (zn k).2 hk, ?_⟩
    have h1 := h.at_ k hk
    cases e : n.at_ k with
    | none => rw [e] at h1; exact absurd h1.symm h2
    | some v => rw [e] at h1; exact congrArg some h1
theorem disk_len {al : List (Int × Sec)} (h : Cpl n W) (hI : Inv W D nx) (hg : n.gone = []) (hn : (zJ al).Nodup) (hal : ∀ k, yA al k = D k) : al.length = (zr n).length := by
  have h1 : (zJ al).Perm (zr n) := by
    refine (List.perm_ext_iff_of_nodup hn (Z5 h hI hg)).2 fun a => ?_
    rw [YT h hI hg, ← hal]
    have := Q8 (l := al) (q := a)
    constructor
    · intro h1 h2; exact this.1 h2 h1
    · intro h1; exact Classical.byContradiction fun h2 => h1 (this.2 h2)
  have := h1.length_eq
  simpa [zJ] using this
end
open Go Go.Sx Go.Nd Go.RowKit Go.Maps Go.Sort
section
variable {n : NS} {W : RS} {D : Int → Option Sec} {nx : Int}
end
section
variable {w0 : World}
theorem laidOut_prog : laidOutB Tryz.prog = true := by kernel_rfl
theorem key100 : Keyed Tryz.prog 100 := Keyed.of_law (deep_law_laid laidOut_prog (m := 2) (by omega) (of_decide_eq_true (by kernel_rfl)) (by kernel_rfl) (by kernel_rfl))
theorem und88 : Tryz.prog.underlying 88 = some (.map 100 3) := by kernel_rfl
def Jj : Value → Option (DataW Unit × List MemPlace)
  | .int .i64 a => some (.lit (.int .i64 a), [])
  | _ => none
theorem XJ {v : Value} {y : DataW Unit × List MemPlace} (h : Jj v = some y) : ∃ c : Int, v = .int .i64 c ∧ y = (.lit (.int .i64 c), []) := by
  unfold Jj at h
  split at h
  · cases h; exact ⟨_, rfl, rfl⟩
  · cases h
set_option maxHeartbeats 1000000 in
theorem values1_in (F : Fence) (n : Nat) (hf : F.fn 83) (hro : F.round = none) (hn : 1 ≤ n) (l Bm b nn : Nat) (D0 : DataW Unit) (J : List Int → World → Prop)
    (hkey : ∀ v kl, keyOf Tryz.prog 100 v = some kl → ∃ s, kl = .string s)
    (hY : ∀ pre x W, J pre W → pre.length < Maps.size D0 → YieldAt F (n - 1) Tryz.prog l #[.int .i64 x] W fun e W' => e = .returned (.bool true) ∧ J (pre ++ [x]) W' ∧ KeepsWalks W W')
    (W : World) (hJ : AbidesFrom W.heap.size J) (hm : W.cell? ⟨Bm, 0, none⟩ = some (.map (some b))) (hown : W.ownsMap Tryz.prog 100 Jj b nn D0) (h0 : J [] W) :
    CallsIn F n Tryz.prog 83 #[.func (.yield l) #[] #[], .pointer (some ⟨Bm, 0, none⟩)] W fun e W' => (∃ v, e = .returned v) ∧
      ∃ ps : List (List UInt8 × Int), (ps.map (·.1)).Nodup ∧ (∀ x, x ∈ ps.map (·.1) ↔ has D0 (.string x) = true) ∧ (∀ p ∈ ps, ∀ zd, D0.atKey (.string p.1) zd = .lit (.int .i64 p.2)) ∧ J (ps.map (·.2)) W' := by
  refine callsIn_of_wp Tryz.func83 rfl hf ?_ hro
  simp only [Tryz.ntmps83, List.size_toArray, List.length_cons, List.length_nil, Nat.reduceAdd, Nat.reduceSub, Array.replicate_succ, Array.replicate_zero, List.push_toArray, List.append_toArray, List.nil_append, List.cons_append]
  gi_wp2_with (first
    | (gi_at_range; refine wpListIn_range_own _ rfl _ 88 rfl 100 3 key100 und88 _ b nn _ rfl hown ?_; intro w0 hrg0 hg0 hs0)
    | gi_in)
  go_frame
  gi_loopw [4] (fun _ wr => ∃ (left : Lit → Bool) (cnt : Nat) (ps : List (List UInt8 × Int)), wr.ranges Tryz.prog 100 Jj b W.heap.size nn D0 left cnt ∧ ps.length + cnt ≤ Maps.size D0 ∧ Collected D0 left (ps.map (·.1)) ∧ (∀ p ∈ ps, ∀ zd, D0.atKey (.string p.1) zd = .lit (.int .i64 p.2)) ∧ J (ps.map (·.2)) wr)
    (fun _ wr => wr.rangeLeft b W.heap.size)
  case atStart =>
    exact ⟨_, _, [], hrg0, by simp, Collected.start D0, by simp, hJ [] W w0 none h0 hg0 (fun r e => by cases e)⟩
  case round =>
    obtain ⟨left, cnt, ps, hrg, hcs, hC, hV, hJs⟩ := hrel
    gi_wp2_with (first
      | (gi_at_next; refine wpListIn_next_ranges _ rfl _ rfl 100 key100 Jj (id : Value → Value) (Value.int .i64) (fun key kl hk => ⟨key, rfl⟩) (fun v y hv => by obtain ⟨c, rfl, _⟩ := XJ hv; exact ⟨c, rfl⟩) b W.heap.size nn _ _ _ rfl hrg ?_ ?_)
      | gi_in)
    · intro hc0 hl0
      gi_wp2
      go_end0
      exact ⟨⟨_, rfl⟩, ps, hC.1, fun x => by rw [hC.2 x, hl0]; simp, hV, hJs⟩
    · intro x c kl yd yp w2 cnt2 hkx hlk hv hat hrg2 hlt hg2 hs2 hen
      obtain ⟨s, rfl⟩ := hkey _ _ hkx
      obtain ⟨c', ec, ez⟩ := XJ hv
      obtain rfl : c = c' := by simpa using ec
      obtain rfl : yd = .lit (.int .i64 c) := (Prod.mk.inj ez).1
      have hJ2 : J (ps.map (·.2)) w2 := hJ _ wr w2 (some W.heap.size) hJs hg2 (fun r e => by cases e; exact ⟨Nat.le_refl _, hrg.iter_walk⟩)
      obtain ⟨fn, tmps, assign, body, hy, hR⟩ := hY (ps.map (·.2)) c w2 hJ2 (by simp; omega)
      clear hs2
      gi_wp2
      refine hR.mono ?_
      have hC2 : Collected D0 (fun z => left z && !z.sameKey (.string s)) ((ps ++ [(s, c)]).map (·.1)) := by simpa using hC.step hlk hat
      have hV2 : ∀ p ∈ ps ++ [(s, c)], ∀ zd, D0.atKey (.string p.1) zd = .lit (.int .i64 p.2) := fun p hp => (List.mem_append.1 hp).elim (hV p) (fun e => by simp at e; subst e; exact hat)
      rintro e W3 ⟨rfl, hJ3, hk3⟩
      gi_wp2
      have hrg3 := hrg2.of_walks hk3
      go_roundw
      case rel => exact ⟨_, cnt2, ps ++ [(s, c)], hrg3, by simp; omega, hC2, hV2, by simpa using hJ3⟩
      case measure => rw [hrg3.left_eq, hrg.left_eq]; exact hlt
theorem key_str {v : Value} {kl : Lit} (h : keyOf Tryz.prog 100 v = some kl) : ∃ s, kl = .string s := by
  unfold keyOf at h
  rw [Tryz.underlying100] at h
  dsimp only at h
  split at h
  · cases hk : Tryz.prog.keyLits (Tryz.prog.types.size + 1) 100 v.cells.toList with
    | none => rw [hk] at h; cases h
    | some ls => rw [hk] at h; cases h; exact ⟨_, rfl⟩
  · cases h
theorem JL (d : Nat) {a : Int} (h : (Lit.int .i64 a).wf = true) : Tryz.prog.keyLits (d + 1) 3 [.int .i64 a] = some [.int .i64 a] := by
  unfold Program.keyLits
  rw [show Tryz.prog.underlying 3 = some (.int .i64) by kernel_rfl]
  simp [h]
theorem part_wf {k : Int × Int} (hk : qw k) : (Lit.int .i64 k.1).wf = true ∧ (Lit.int .i64 k.2).wf = true := by
  have e1 : IntKind.i64.min = -9223372036854775808 := by decide
  have e2 : IntKind.i64.max = 9223372036854775807 := by decide
  have h : (1 ≤ k.1 ∧ k.1 ≤ 5) ∧ 0 ≤ k.2 ∧ k.2 < 1064 := by
    rcases hk with ⟨h1, h2, h3⟩ | rfl | rfl | rfl | ⟨h1, h2, h3⟩
    · omega
    · simp
    · simp
    · simp
    · omega
  simp only [Lit.wf, e1, e2, Bool.and_eq_true, decide_eq_true_eq]
  omega
theorem Xd {k : Int × Int} (hk : qw k) : ∃ s, keyOf Tryz.prog 100 (yN k) = some (.string s) := by
  obtain ⟨w1, w2⟩ := part_wf hk
  have c2 : Tryz.prog.cellsOf 100 = 2 := by kernel_rfl
  have c3 : Tryz.prog.cellsOf 3 = 1 := by kernel_rfl
  have kt : Tryz.prog.keyType 100 = true := by kernel_rfl
  have hp : 0 < Tryz.prog.types.size := of_decide_eq_true (by kernel_rfl)
  obtain ⟨d, hd⟩ : ∃ d, Tryz.prog.types.size = d + 1 := ⟨Tryz.prog.types.size - 1, by omega⟩
  have h1 : ∃ ls, Tryz.prog.keyLits (Tryz.prog.types.size + 1) 100 [.int .i64 k.1, .int .i64 k.2] = some ls := by
    rw [hd]
    unfold Program.keyLits
    rw [Tryz.underlying100]
    simp [c2, c3, JL d w1, JL d w2]
  obtain ⟨ls, hl⟩ := h1
  refine ⟨keyBytes ls, ?_⟩
  unfold keyOf
  rw [Tryz.underlying100]
  show (if Tryz.prog.keyType 100 && (yN k).formed Tryz.prog 100 then _ else none) = _
  have hf : (yN k).formed Tryz.prog 100 = true := by
    unfold yN Value.formed
    rw [Tryz.underlying100]
    simp [c2]
  rw [kt, hf]
  show (Tryz.prog.keyLits (Tryz.prog.types.size + 1) 100 [.int .i64 k.1, .int .i64 k.2]).map _ = _
  rw [hl]; rfl
noncomputable def kB (k : Int × Int) : List UInt8 := open Classical in if h : ∃ s, keyOf Tryz.prog 100 (yN k) = some (.string s) then Classical.choose h else []
theorem V5 {k : Int × Int} (hk : qw k) : keyOf Tryz.prog 100 (yN k) = some (.string (kB k)) := by
  unfold kB
  rw [dif_pos (Xd hk)]
  exact Classical.choose_spec (Xd hk)
theorem Xi {k q : Int × Int} (h : yN k = yN q) : k = q := by
  have h1 : [Value.int .i64 k.1, Value.int .i64 k.2] = [Value.int .i64 q.1, Value.int .i64 q.2] := by
    unfold yN at h
    have h2 := Value.agg.inj h
    exact congrArg Array.toList h2
  simp only [List.cons.injEq, Value.int.injEq, true_and, and_true] at h1
  exact Prod.ext h1.1 h1.2
theorem Vo {k q : Int × Int} (hk : qw k) (hq : qw q) (e : kB k = kB q) : k = q := by
  have h1 := key100.inj (V5 hk) (by rw [e]; exact V5 hq)
  exact Xi h1
noncomputable def XK (al : List ((Int × Int) × Int)) : List (Lit × DataW Unit) := al.map fun p => (.string (kB p.1), .lit (.int .i64 p.2))
noncomputable def K0 (al : List ((Int × Int) × Int)) : DataW Unit := .map ((XK al).foldr DataW.insert [])
theorem valE_apart {al : List ((Int × Int) × Int)} (hn : (zJ al).Nodup) (hp : ∀ k ∈ zJ al, qw k) : (XK al).Pairwise (fun p q => p.1 ≠ q.1) := by
  unfold XK
  refine List.pairwise_map.2 ?_
  have := List.pairwise_map.1 hn
  refine this.imp_of_mem fun {a b} ha hb hne e => hne ?_
  exact Vo (hp _ (List.mem_map.2 ⟨a, ha, rfl⟩)) (hp _ (List.mem_map.2 ⟨b, hb, rfl⟩)) (by simpa using e)
theorem QD (l : Lit) (s : List UInt8) : l.sameKey (.string s) = true ↔ l = .string s := by
  cases l <;> simp [Lit.sameKey]
theorem find_apart : ∀ (es : List (Lit × DataW Unit)), es.Pairwise (fun p q => p.1 ≠ q.1) → ∀ (s : List UInt8) (d : DataW Unit), (Lit.string s, d) ∈ es → es.find? (fun p => p.1.sameKey (.string s)) = some (.string s, d) := by
  intro es
  induction es with
  | nil => intro _ s d h; cases h
  | cons e es ih =>
    intro hp s d h
    rw [List.find?_cons]
    rcases List.mem_cons.1 h with rfl | h
    · rw [show (Lit.string s).sameKey (.string s) = true from (QD _ _).2 rfl]
    · have h1 := (List.pairwise_cons.1 hp).1 _ h
      have h2 : e.1.sameKey (.string s) = false := by
        cases h3 : e.1.sameKey (.string s) with
        | false => rfl
        | true => exact absurd ((QD _ _).1 h3) h1
      rw [h2]
      exact ih (List.pairwise_cons.1 hp).2 s d h
theorem Yz (al : List ((Int × Int) × Int)) (p : Lit × DataW Unit) : p ∈ (XK al).foldr DataW.insert [] ↔ p ∈ XK al := (Go.WideShapes.sorted_perm _).mem_iff
theorem XL (al : List ((Int × Int) × Int)) (x : List UInt8) : has (K0 al) (.string x) = true ↔ ∃ p ∈ al, kB p.1 = x := by
  unfold K0
  rw [has_eq, List.any_eq_true]
  constructor
  · rintro ⟨p, hp, h⟩
    rw [Yz] at hp
    obtain ⟨q, hq, rfl⟩ := List.mem_map.1 hp
    exact ⟨q, hq, by simpa using (QD _ _).1 h⟩
  · rintro ⟨q, hq, rfl⟩
    exact ⟨_, (Yz _ _).2 (List.mem_map.2 ⟨q, hq, rfl⟩), (QD _ _).2 rfl⟩
theorem valD_at {al : List ((Int × Int) × Int)} (hn : (zJ al).Nodup) (hp : ∀ k ∈ zJ al, qw k) {q : (Int × Int) × Int} (hq : q ∈ al) (zd : DataW Unit) : (K0 al).atKey (.string (kB q.1)) zd = .lit (.int .i64 q.2) := by
  unfold K0 DataW.atKey
  have h1 : ((XK al).foldr DataW.insert []).Pairwise (fun p q => p.1 ≠ q.1) := ((Go.WideShapes.sorted_perm _).pairwise_iff (fun {_ _} hne => Ne.symm hne)).2 (valE_apart hn hp)
  dsimp only
  rw [find_apart _ h1 _ _ ((Yz _ _).2 (List.mem_map.2 ⟨q, hq, rfl⟩))]
theorem vals_perm {al : List ((Int × Int) × Int)} (hn : (zJ al).Nodup) (hp : ∀ k ∈ zJ al, qw k) {ps : List (List UInt8 × Int)} (h1 : (ps.map (·.1)).Nodup) (h2 : ∀ x, x ∈ ps.map (·.1) ↔ has (K0 al) (.string x) = true)
    (h3 : ∀ p ∈ ps, ∀ zd, (K0 al).atKey (.string p.1) zd = .lit (.int .i64 p.2)) : (ps.map (·.2)).Perm (al.map (·.2)) := by
  have hA : (al.map fun p => (kB p.1, p.2)).map (·.2) = al.map (·.2) := by rw [List.map_map]; rfl
  rw [← hA]
  refine List.Perm.map _ ?_
  have nA : (al.map fun p => (kB p.1, p.2)).Nodup := by
    refine List.pairwise_map.2 ?_
    have := List.pairwise_map.1 hn
    exact this.imp_of_mem fun {a b} ha hb hne e => hne (Vo (hp _ (List.mem_map.2 ⟨a, ha, rfl⟩)) (hp _ (List.mem_map.2 ⟨b, hb, rfl⟩)) (congrArg Prod.fst e))
  have nP : ps.Nodup := (List.pairwise_map.1 h1).imp fun {a b} hne e => hne (congrArg Prod.fst e)
  have key : ∀ q ∈ al, ∀ p ∈ ps, p.1 = kB q.1 → p.2 = q.2 := fun q hq p hpp e => by
    have e1 := h3 p hpp .nil
    rw [e, valD_at hn hp hq .nil] at e1
    simpa using e1.symm
  refine (List.perm_ext_iff_of_nodup nP nA).2 fun p => ?_
  constructor
  · intro h
    obtain ⟨q, hq, e⟩ := (XL al p.1).1 ((h2 p.1).1 (List.mem_map.2 ⟨p, h, rfl⟩))
    exact List.mem_map.2 ⟨q, hq, Prod.ext e (key q hq p h e.symm).symm⟩
  · intro h
    obtain ⟨q, hq, rfl⟩ := List.mem_map.1 h
    obtain ⟨p, hpp, e⟩ := List.mem_map.1 ((h2 (kB q.1)).2 ((XL al _).2 ⟨q, hq, rfl⟩))
    have e2 := key q hq p hpp e
    exact (show p = (kB q.1, q.2) from Prod.ext e e2) ▸ hpp
theorem al_parts {al : List ((Int × Int) × Int)} {f : Int × Int → Option Int} (hn : (zJ al).Nodup) (hg : ∀ k, yA al k = f k) (hp : ∀ k, f k ≠ none → qw k) : (al.map (·.2)).Perm (allParts.filterMap f) := by
  have e1 : allParts.filterMap f = (allParts.filterMap fun k => (f k).map fun v => (k, v)).map (·.2) := by
    rw [List.map_filterMap]
    congr 1
    funext k
    cases f k <;> rfl
  rw [e1]
  refine List.Perm.map _ ?_
  have nA : al.Nodup := (List.pairwise_map.1 hn).imp fun {a b} hne e => hne (congrArg Prod.fst e)
  have nB : (allParts.filterMap fun k => (f k).map fun v => (k, v)).Nodup := by
    refine List.pairwise_filterMap.2 (parts_nodup.imp fun {a b} hne x hx y hy e => hne ?_)
    subst e
    cases ha : f a with
    | none => rw [ha] at hx; cases hx
    | some u =>
      cases hb : f b with
      | none => rw [hb] at hy; cases hy
      | some v => rw [ha] at hx; rw [hb] at hy; cases hx; cases hy; rfl
  refine (List.perm_ext_iff_of_nodup nA nB).2 fun p => ?_
  rw [List.mem_filterMap]
  constructor
  · intro h
    have h1 := x6 hn (show (p.1, p.2) ∈ al from h)
    rw [hg] at h1
    exact ⟨p.1, (zn _).2 (hp _ (by rw [h1]; simp)), by rw [h1]; rfl⟩
  · rintro ⟨k, hk, e⟩
    cases hf : f k with
    | none => rw [hf] at e; cases e
    | some v =>
      rw [hf] at e
      cases e
      exact Jc (by rw [hg]; exact hf)
theorem own_vals {w : World} {md : Nat} {al : List ((Int × Int) × Int)} {es : List MapEntry} {clock : Nat} (hm : w.heap[md]? = some (.map es.toArray clock)) (he : Entries yN (Value.int .i64) al es clock) (hr : ∀ k ∈ zJ al, qw k) :
    w.ownsMap Tryz.prog 100 Jj md 1099 (K0 al) := by
  have hlen : es.length ≤ 1099 := by
    have h1 : es.length = (zJ al).length := by rw [k8 he]; simp [zJ]
    have h2 := yR (l2 := allParts) he.nodup (fun k hk => (zn k).2 (hr k hk))
    have h3 : allParts.length = 1099 := by simp [allParts]
    omega
  have hkeys : es.map (·.key) = (zJ al).map yN := by
    have := congrArg (List.map Prod.fst) he.pairs
    simpa [zJ, List.map_map, Function.comp_def] using this
  have hrd : ∀ (i : Nat) (x : MapEntry) (p : (Int × Int) × Int), es[i]? = some x → al[i]? = some p → Go.WideElems.rd Tryz.prog 100 Jj x = some (.string (kB p.1), .lit (.int .i64 p.2)) := fun i x p hx hpp => by
    obtain ⟨e, h1, h2, h3⟩ := km he (q := p.1) (v := p.2) hpp
    rw [hx] at h1; cases h1
    unfold Go.WideElems.rd
    rw [h2, V5 (hr _ (List.mem_map.2 ⟨p, List.mem_of_getElem? hpp, rfl⟩)), h3]; rfl
  have hget : ∀ (i : Nat) (x : MapEntry), es[i]? = some x → ∃ p, al[i]? = some p := fun i x hx => by
    have := (List.getElem?_eq_some_iff.1 hx).1
    exact ⟨_, List.getElem?_eq_getElem (by rw [← k8 he]; exact this)⟩
  refine ⟨es.toArray, clock, hm, ⟨by simp [maxLen]; omega, ⟨fun x hx => he.young x (by simpa using hx), ?_, ?_⟩, fun x hx => ?_⟩, by simpa using hlen, ?_⟩
  · have := he.asc.imp (fun {a b} (h : a < b) => Nat.ne_of_lt h)
    simpa [List.Nodup] using this
  · show (es.map (·.key)).Nodup
    rw [hkeys]
    refine List.pairwise_map.2 (he.nodup.imp_of_mem fun {a b} ha hb hne e => hne ?_)
    exact Xi e
  · obtain ⟨i, hi⟩ := List.mem_iff_getElem?.1 (show x ∈ es by simpa using hx)
    obtain ⟨p, hpp⟩ := hget i x hi
    exact ⟨_, hrd i x p hi hpp⟩
  · unfold K0 XK
    congr 1
    congr 1
    apply List.ext_getElem?
    intro i
    simp only [List.getElem?_map]
    cases hx : es[i]? with
    | none =>
      have : al[i]? = none := by rw [List.getElem?_eq_none_iff] at hx ⊢; rw [← k8 he]; exact hx
      simp [this, hx]
    | some x =>
      obtain ⟨p, hpp⟩ := hget i x hx
      simp only [hx, hpp, Option.map_some, Option.some.injEq]
      unfold Go.WideElems.rg
      rw [hrd i x p hx hpp]
      rfl
theorem J0 (al : List ((Int × Int) × Int)) : Maps.size (K0 al) = al.length := by
  show (List.foldr DataW.insert [] _).length = _
  unfold XK
  rw [length_sorted, List.length_map]
theorem gives_vals (Dp b md nn : Nat) (D0 : DataW Unit) (w : World) (hb : b < w.heap.size) (hc : w.cell? ⟨b, 0, none⟩ = some (.map (some md))) (hown : w.ownsMap Tryz.prog 100 Jj md nn D0) :
    SeqGives (Fence.list [49, 82, 83] (some Dp)) 1 Tryz.prog 83 #[.pointer (some ⟨b, 0, none⟩)] encZ (fun xs => ∃ ps : List (List UInt8 × Int), (ps.map (·.1)).Nodup ∧ (∀ x, x ∈ ps.map (·.1) ↔ has D0 (.string x) = true) ∧ (∀ p ∈ ps, ∀ zd, D0.atKey (.string p.1) zd = .lit (.int .i64 p.2)) ∧ xs = ps.map (·.2)) (Maps.size D0) w := fun l J W hW hJ hY h0 => by
  have hown' : W.ownsMap Tryz.prog 100 Jj md nn D0 := by
    have hbl := hown.lt
    obtain ⟨es, clock, hb, Ft, hs, hD⟩ := hown
    exact ⟨es, clock, (hW.block md hbl).trans hb, Ft, hs, hD⟩
  refine (values1_in (Fence.list [49, 82, 83] (some Dp)) 1 (by simp [Fence.list]) rfl (by omega) l b md nn D0 J (fun v kl h => key_str h) hY W hJ ((hW.cell (p := ⟨b, 0, none⟩) hb).trans hc) hown' h0).mono ?_
  rintro e W' ⟨he, ps, h1, h2, h3, h4⟩
  exact ⟨he, _, ⟨ps, h1, h2, h3, rfl⟩, h4⟩
theorem shelf_values (hd : w0.drawn = 0) (F : Res) (b md : Nat) (e : TypeId) (fr : Nat × Nat) (od : Obj) (f : Int × Int → Option Int) (ho : MapF yN (Value.int .i64) f od) (hf : ∀ k, f k ≠ none → qw k) :
    FnT Tryz.prog w0 49 #[.func (.func 83) [].toArray [.pointer (some ⟨b, 0, none⟩)].toArray] ([(b, .cells [Value.map (some md)].toArray e fr)] :: [(md, od)] :: F)
      (fun v L' => ∃ xs C, SlC 3 1 v xs.length (iV xs) C ∧ xs.Perm (allParts.filterMap f) ∧ L' = C :: [(b, .cells [Value.map (some md)].toArray e fr)] :: [(md, od)] :: F) := by
  refine ⟨fun w hw => ?_⟩
  obtain ⟨al, ⟨es, clock, rfl, he⟩, hg⟩ := ho
  have hk : ∀ k ∈ zJ al, qw k := fun k hk => hf k (by
    rw [← hg k]
    have := Q8 (l := al) (q := k)
    intro h2; exact this.1 h2 hk)
  have hb : w.heap[b]? = some (.cells [Value.map (some md)].toArray e fr) := hw.at_ (b, _) (by simp)
  have hm : w.heap[md]? = some (.map es.toArray clock) := hw.at_ (md, _) (by simp)
  have hown := own_vals hm he hk
  have hlen : al.length ≤ 1099 := by
    obtain ⟨_, _, h1, _, h2, _⟩ := hown
    rw [hm] at h1; cases h1
    rw [← k8 he]; simpa using h2
  have hcell : w.cell? ⟨b, 0, none⟩ = some (.map (some md)) := by rw [Yu hb]; rfl
  have hcall : Calls Tryz.prog 49 #[.func (.func 83) #[] #[.pointer (some ⟨b, 0, none⟩)]] w _ := calls_of_every_depth (L := [49, 82, 83]) (n := 3) fun Dp => Kg (g := 83) [49, 82, 83] (by simp) (by simp) (by simp) #[.pointer (some ⟨b, 0, none⟩)] Dp _ (Maps.size (K0 al)) (by rw [J0]; simp [maxLen]; omega) (by rw [J0]; omega) w
      (gives_vals Dp b md 1099 (K0 al) w (hw.lt (p := (b, .cells [Value.map (some md)].toArray e fr)) (by simp)) hcell hown)
  refine hcall.mono fun e' w' ⟨v, ss, h1, ⟨ps, g1, g2, g3, g4⟩, h3, h4, h5⟩ => ?_
  subst g4
  obtain ⟨C, h6, h7⟩ := JB (C := []) hd hw h5 h3
  exact ⟨v, _, h1, ⟨_, C, h6, (vals_perm he.nodup hk g1 g2 g3).trans (al_parts he.nodup hg hf), rfl⟩, h7⟩
theorem shelfV (hd : w0.drawn = 0) : XA w0 := ⟨shelf_values hd⟩
end
section
variable {w0 : World} {L F : Res} {ba bl : Nat}
theorem nodup_step {l : List Int} (h : l.Nodup) {i : Nat} (h0 : 0 < i) {a b : Int} (ha : l[i - 1]? = some a) (hb : l[i]? = some b) : a ≠ b := by
  intro e
  subst e
  have h1 := (List.getElem?_eq_some_iff.1 ha).1
  have h2 := (List.getElem?_eq_some_iff.1 hb).1
  have := (List.getElem?_inj h1 h).1 (ha.trans hb.symm)
  omega
theorem costs_ok (H : jL w0) (HP : QA) (HV : XA w0) (G I : qV) (hg : kj G) (qa : Option Addr) (ca : Nat) (acts : List ZR) (hacts : XF [G, I] qa ca acts) (hlen : (acts.length : Int) ≤ 9223372036854775807) :
    FnT Tryz.prog w0 4 #[.slice qa acts.length ca] (G :: I :: F) (fun r L' => r = .bool true ∧ L' = G :: I :: F) := by
  refine qi (E0 := [(0, _)]) (N := 103) Tryz.func4 rfl rfl rfl rfl ?_
  refine qO <| qE rfl <| qF <| qN <| qO <| q9 (wM rfl (zk (G) (awake_ok H HP G hg))) <| q9 (kX rfl) <| qF <| wV rfl <| qZ <| qJ <| qO <| qG (w5 rfl (we (G) (Xs G hg))) ?_
  rintro t14 _ ⟨x, p, md, ba, bl, v, C, Cn, od, rfl, hn, hw, hD, rfl⟩
  refine qA rfl <| q9 (qf rfl rfl) <| q9 (qf rfl rfl) <| qE rfl <| qE rfl <| qF <| qN <| qO <| qA rfl <| q9 (kX rfl) <| qF <| wV rfl <| qZ <| qJ <| qN <| qO <| qE rfl <| qF <| qg <| wS (Γ := {pΓ : (Nat) × (Nat) × (Nat) × (Nat) × (Nat) × (List Value) × (Int) × (Obj) × (NS) × (RS) × (Int → Option Sec) × (qV) × (qV) // (fun (i : Nat) (p : Nat) (md : Nat) (ba : Nat) (bl : Nat) (v : List Value) (nx : Int) (od : Obj) (n : NS) (W : RS) (D : Int → Option Sec) (Cn : qV) (C : qV) => i ≤ acts.length ∧ i ≤ 25 ∧ StP nx n W D i ∧ NodeC p n Cn ∧ RefC ba bl W v C ∧ MapF (Value.int .i64) jE D od) pΓ.1 pΓ.2.1 pΓ.2.2.1 pΓ.2.2.2.1 pΓ.2.2.2.2.1 pΓ.2.2.2.2.2.1 pΓ.2.2.2.2.2.2.1 pΓ.2.2.2.2.2.2.2.1 pΓ.2.2.2.2.2.2.2.2.1 pΓ.2.2.2.2.2.2.2.2.2.1 pΓ.2.2.2.2.2.2.2.2.2.2.1 pΓ.2.2.2.2.2.2.2.2.2.2.2.1 pΓ.2.2.2.2.2.2.2.2.2.2.2.2}) (fun g => (fun (i : Nat) (p : Nat) (md : Nat) (ba : Nat) (bl : Nat) (v : List Value) (nx : Int) (od : Obj) (n : NS) (W : RS) (D : Int → Option Sec) (Cn : qV) (C : qV) => [(0, .slice qa acts.length ca), (3, .pointer (some ⟨x, 0, none⟩)), (5, .int .i64 i)]) g.1.1 g.1.2.1 g.1.2.2.1 g.1.2.2.2.1 g.1.2.2.2.2.1 g.1.2.2.2.2.2.1 g.1.2.2.2.2.2.2.1 g.1.2.2.2.2.2.2.2.1 g.1.2.2.2.2.2.2.2.2.1 g.1.2.2.2.2.2.2.2.2.2.1 g.1.2.2.2.2.2.2.2.2.2.2.1 g.1.2.2.2.2.2.2.2.2.2.2.2.1 g.1.2.2.2.2.2.2.2.2.2.2.2.2) (fun g => (fun (i : Nat) (p : Nat) (md : Nat) (ba : Nat) (bl : Nat) (v : List Value) (nx : Int) (od : Obj) (n : NS) (W : RS) (D : Int → Option Sec) (Cn : qV) (C : qV) => StD x p v md nx false od :: Cn :: C :: G :: I :: F) g.1.1 g.1.2.1 g.1.2.2.1 g.1.2.2.2.1 g.1.2.2.2.2.1 g.1.2.2.2.2.2.1 g.1.2.2.2.2.2.2.1 g.1.2.2.2.2.2.2.2.1 g.1.2.2.2.2.2.2.2.2.1 g.1.2.2.2.2.2.2.2.2.2.1 g.1.2.2.2.2.2.2.2.2.2.2.1 g.1.2.2.2.2.2.2.2.2.2.2.2.1 g.1.2.2.2.2.2.2.2.2.2.2.2.2) (fun g => (fun (i : Nat) (p : Nat) (md : Nat) (ba : Nat) (bl : Nat) (v : List Value) (nx : Int) (od : Obj) (n : NS) (W : RS) (D : Int → Option Sec) (Cn : qV) (C : qV) => acts.length - i) g.1.1 g.1.2.1 g.1.2.2.1 g.1.2.2.2.1 g.1.2.2.2.2.1 g.1.2.2.2.2.2.1 g.1.2.2.2.2.2.2.1 g.1.2.2.2.2.2.2.2.1 g.1.2.2.2.2.2.2.2.2.1 g.1.2.2.2.2.2.2.2.2.2.1 g.1.2.2.2.2.2.2.2.2.2.2.1 g.1.2.2.2.2.2.2.2.2.2.2.2.1 g.1.2.2.2.2.2.2.2.2.2.2.2.2) ⟨(0, p, md, ba, bl, v, 100, od, Zb 3 7 1, WZ 3 7 1, (fun _ => none), Cn, C), by dsimp only; exact ⟨by omega, by omega, ⟨KV.1, KV.2, by omega⟩, hn, hw, hD⟩⟩ (qX _) ?_
  rintro ⟨⟨i, p, md, ba, bl, v, nx, od, n, W, D, Cn, C⟩, hloop⟩
  replace hloop : i ≤ acts.length ∧ i ≤ 25 ∧ StP nx n W D i ∧ NodeC p n Cn ∧ RefC ba bl W v C ∧ MapF (Value.int .i64) jE D od := hloop
  obtain ⟨hi, hi25, hP, hn, hw, hD⟩ := hloop
  show Tr _ _ _ ([(0, .slice qa acts.length ca), (3, .pointer (some ⟨x, 0, none⟩)), (5, .int .i64 i)]) (StD x p v md nx false od :: Cn :: C :: G :: I :: F) _ _
  refine qN <| zY (Γ := {pΓ : (Bool) // (fun (b : Bool) => b = true ↔ (i < acts.length ∧ i < 25)) pΓ}) (fun g => (fun (b : Bool) => [(0, .slice qa acts.length ca), (3, .pointer (some ⟨x, 0, none⟩)), (5, .int .i64 i), (26, .bool b)]) g.1) (fun g => (fun (b : Bool) => StD x p v md nx false od :: Cn :: C :: G :: I :: F) g.1) ?_ ?_
  ·
   refine qK <| qA rfl <| qA rfl <| q9 (w8 rfl) <| q9 (wJ rfl rfl) <| qA rfl <| qY (s := 23) rfl (fun hg7_4 => ?_) (fun hg7_4 => ?_)
   ·
    refine qD rfl rfl (qP rfl) <| qD rfl rfl (wJ rfl rfl) <| q9 (qq rfl rfl) <| qT <| qW ⟨_, ?_⟩ ?_
    · (try dsimp only); first | exact ⟨fun h => ⟨by omega, by have := of_decide_eq_true h; omega⟩, fun h => decide_eq_true (by omega)⟩ | exact ⟨fun h => (by cases h), fun h => (by omega)⟩
    · (try dsimp only); exact qX _
   ·
    refine qL rfl rfl rfl <| qL rfl rfl rfl <| q9 (qU rfl rfl) <| qT <| qW ⟨_, ?_⟩ ?_
    · (try dsimp only); first | exact ⟨fun h => ⟨by omega, by have := of_decide_eq_true h; omega⟩, fun h => decide_eq_true (by omega)⟩ | exact ⟨fun h => (by cases h), fun h => (by omega)⟩
    · (try dsimp only); exact qX _
  rintro ⟨b, hcut⟩
  replace hcut : b = true ↔ (i < acts.length ∧ i < 25) := hcut
  have hb := hcut
  show Tr _ _ _ ([(0, .slice qa acts.length ca), (3, .pointer (some ⟨x, 0, none⟩)), (5, .int .i64 i), (26, .bool b)]) (StD x p v md nx false od :: Cn :: C :: G :: I :: F) _ _
  refine yB rfl (fun hc6 => ?_) (fun hc6 => ?_)
  ·
   refine qZ <| qJ <| qN <| qg <| qN ?_
   have hbb := hb.1 hc6
   obtain ⟨ac, hac⟩ : ∃ ac, acts[i]? = some ac := ⟨_, List.getElem?_eq_getElem (by omega)⟩
   have hao := hacts.ok ac (List.mem_of_getElem? hac)
   obtain ⟨bq, oq, cq, eq, fq, hqa, hmem, hcell, hsize⟩ := act_at w0 hacts hac
   refine qK <| qA rfl <| qA rfl <| qA rfl <| q9 (qx (j := i) (off := oq + i * 4) (by rw [hqa]; rfl) rfl rfl (by omega) rfl) ?_
   refine q9 (k0 rfl ((in2 (fun z hz => by simp [hz]) (fun z hz => by simp [hz])) _ hmem) hcell hsize) ?_
   refine qG (w5 rfl (FnT.fr5 (StD x p v md nx false od) (Cn) (C) (G) (I) (ldo_ok H HP x p md v nx false rfl od n W D Cn C G I i ac hn hw hD hg hP (by omega) hao))) ?_
   rintro t34 _ ⟨rfl, p', md', v', nx', od', n', W', D', Cn', C', ba', bl', hP', hn', hw', hD', rfl⟩
   refine q9 (kX rfl) <| qF <| wV rfl <| qZ <| qe <| qJ <| qK <| qA rfl <| q9 (w9 rfl rfl (by omega)) <| qE rfl <| qT <| w6 ⟨(i + 1, p', md', ba', bl', v', nx', od', n', W', D', Cn', C'), ?_⟩ ?_ ?_
   · (try dsimp only); exact ⟨by omega, by omega, hP', hn', hw', hD'⟩
   · (try dsimp only); omega
   · (try dsimp only); exact qX _
  ·
   refine wa <| qr <| qt <| qh <| qJ <| qN <| qN ?_
   have hI := hP.inv
   have hnxb := hP.nxb
   have hgl := hP.gone (by omega)
   have hll := xR W
   have hr : ∀ z ∈ jJ nx (zl W).length, 1 ≤ z ∧ z ≤ 65535 := JX hI.nx (by omega)
   obtain ⟨hcc1, hcc2, hcc3, hcc4⟩ := Kf hP.cpl hI rfl rfl (by omega) hr
   obtain ⟨hI1, hnp, -, hgo, -⟩ := Ke hI rfl rfl
   refine qK <| qA rfl <| qG (w5 rfl (xp (StD x p v md nx false od) (Cn) (C) (G) (KR H HP x p md v nx false od n W D Cn C G (zl W) (jJ nx (zl W).length) rfl rfl hn hw hD hg hP.cpl.ok hP.fl (hP.cpl.parts hI.has) hP.cpl.num hP.cpl.ver hI.nx (by omega) (by omega) (by omega) hr hcc2 (hcc4 hP.cpl.ok hP.fl) hcc3))) ?_
   rintro t37 _ ⟨rfl, v', C', Cn', od', hn', hw', hD', rfl⟩
   obtain ⟨n1, hn1⟩ : ∃ n1, xo n (jJ nx (zl W).length) = n1 := ⟨_, rfl⟩
   obtain ⟨W1, hW1⟩ : ∃ W1, zA W (jJ nx (zl W).length) = W1 := ⟨_, rfl⟩
   obtain ⟨D1, hD1⟩ : ∃ D1, QO (xc (wx (yo W (jJ nx (zl W).length))) D ((zl W).zip (jJ nx (zl W).length))) (srt (xS W (jJ nx (zl W).length))) = D1 := ⟨_, rfl⟩
   obtain ⟨nx1, hnx1⟩ : ∃ nx1, nx + ((zl W).length : Int) = nx1 := ⟨_, rfl⟩
   rw [hn1, hW1] at hcc1
   rw [hW1, hD1, hnx1] at hI1
   rw [hW1] at hnp hgo
   rw [hn1] at hn'
   rw [hW1] at hw'
   rw [hD1] at hD'
   rw [hnx1]
   have hg1 : n1.gone = [] := by have := hcc1.gone; rw [hgo] at this; exact List.perm_nil.1 this
   have hpp1 : yO n1 = [] := (hcc1.parts hI1.has).trans (List.eq_nil_iff_forall_not_mem.2 fun k hk => hnp k ((Q0 W1 k).1 hk).1 ((Q0 W1 k).1 hk).2)
   have hv1 := hw'.len
   have hsl := sectors_len hcc1 hg1
   have hcl : JS (jd n1) = ((zr n1).length : Int) := by rw [hsl, idx_cpl hcc1 hI1]; exact cost_placed hI1 hnp
   have hsn := Z5 hcc1 hI1 hg1
   have hsb : (zr n1).length ≤ 1099 := by
     rw [hsl]; unfold jh; refine Nat.le_trans (List.length_filter_le _ _) ?_; simp [allParts]
   have hsm := YT hcc1 hI1 hg1
   refine q9 (kX rfl) <| qA rfl <| zy (s := 39) rfl (fun hg11_3 => ?_) (fun hg11_3 => ?_)
   · cases hg11_3
   ·
    refine qD rfl rfl (qP rfl) <| qD rfl rfl (qQ rfl) <| qD rfl rfl (qB rfl) <| qD rfl rfl (qI rfl xb) <| Yi rfl rfl (w5 rfl (kG (Cn') (G) (KD H HP p n1 Cn' G hn' hg hcc1.ok))) ?_
    rintro t44 _ ⟨Cp, hp, rfl⟩
    rw [hpp1] at hp
    obtain ⟨qp, kp, hup⟩ := hp.slice
    refine qD rfl rfl (w8 (by rw [hup]; rfl)) ?_
    refine qD rfl rfl (zE rfl rfl) <| q9 (qU rfl rfl) <| qF <| wV rfl <| qZ <| qJ <| qO <| qA rfl <| q9 (qQ rfl) <| q9 (qB rfl) <| q9 (qI rfl xb) <| qG (w5 rfl (we (Cn') (sectors_ok H HV p n1 Cn' hn' hcc1.ok (by rw [hg1]; simp)))) ?_
    rintro t52 _ ⟨Cs, hs, rfl⟩
    obtain ⟨qs, ks, hus⟩ := hs.slice
    obtain ⟨al, hal, hag⟩ := id hD'
    have hdl := disk_len hcc1 hI1 hg1 hal.nodup hag
    refine qE rfl <| qF <| qN <| qO <| qA rfl <| q9 (w8 (by rw [hus]; rfl)) ?_
    refine qA rfl <| q9 (qQ rfl) <| q9 (qB rfl) <| q9 (qI rfl xb) <| q9 (wM rfl (zk (Cn') (Zn H p n1 Cn' hn' hcc1.ok))) <| q9 (zE rfl rfl) <| qA rfl <| qY (s := 61) rfl (fun hg14_8 => ?_) (fun hg14_8 => ?_)
    · exact absurd hcl.symm hg14_8
    ·
     refine qD rfl rfl (qP rfl) <| qD rfl rfl (qQ rfl) <| qD rfl rfl (qB rfl) <| qD rfl rfl (qI rfl (J1 hv1)) <| qD rfl rfl (KJ rfl hal) <| qD rfl rfl (qP rfl) <| qD rfl rfl (w8 (by rw [hus]; rfl)) ?_
     refine qD rfl rfl (zE rfl rfl) <| q9 (qU rfl rfl) <| qF <| qM rfl (fun hc14 => ?_) (fun hc14 => ?_)
     · exact absurd (congrArg Int.ofNat hdl) hc14
     ·
      refine qZ <| qJ <| qN <| qO <| qA rfl <| q9 (w8 (by rw [hus]; rfl)) ?_
      refine qA rfl <| qF <| qg <| wS (Γ := {pΓ : (Nat) // (fun (i : Nat) => i ≤ (zr n1).length) pΓ}) (fun g => (fun (i : Nat) => [(3, .pointer (some ⟨x, 0, none⟩)), (6, t52), (71, t52), (72, .int .i64 (zr n1).length), (73, .int .i64 i)]) g.1) (fun g => (fun (i : Nat) => Cs :: StD x p v' md nx1 false od' :: Cn' :: C' :: G :: I :: F) g.1) (fun g => (fun (i : Nat) => (zr n1).length - i) g.1) ⟨0, by dsimp only; exact (by omega)⟩ (qX _) ?_
      rintro ⟨i, hloop⟩
      replace hloop : i ≤ (zr n1).length := hloop
      obtain hi2 := hloop
      show Tr _ _ _ ([(3, .pointer (some ⟨x, 0, none⟩)), (6, t52), (71, t52), (72, .int .i64 (zr n1).length), (73, .int .i64 i)]) (Cs :: StD x p v' md nx1 false od' :: Cn' :: C' :: G :: I :: F) _ _
      refine qO <| q9 (wJ rfl rfl) <| qF <| qN <| qM rfl (fun hc17 => ?_) (fun hc17 => ?_)
      ·
       refine qZ <| qJ <| qN <| qg <| qN ?_
       obtain ⟨a, ha⟩ : ∃ a, (zr n1)[i]? = some a := ⟨_, List.getElem?_eq_getElem (by omega)⟩
       have hDa := (hsm a).1 (List.mem_of_getElem? ha)
       refine qK <| qA rfl <| qG (yD (j := i) rfl rfl hs (by omega) (by omega)) ?_
       rintro t76 _ ⟨bS, capS, spS, hqS, rfl, hcapS, hncS, rfl, rfl⟩
       refine q9 (qI rfl (show wY (iV (zr n1) ++ spS) (i * 1) = some (.int .i64 a) by rw [zB, Nat.mul_one, List.getElem?_append_left (by simp [iV]; omega)]; simp [iV, ha])) ?_
       refine qE rfl <| qE rfl <| qm <| qA rfl <| q9 (qQ rfl) <| q9 (qB rfl) <| q9 (qI rfl (J1 hv1)) <| qA rfl <| q9 (ye (z := Sec.zero) (q := a) rfl rfl hD') <| qA rfl <| q9 (qf rfl rfl) <| q9 (qf rfl rfl) <| qG (qj) ?_
       rintro t9 _ ⟨b9, rfl, rfl⟩
       refine qR (qo rfl rfl (by simp) (by simp) (wl _)) ?_
       refine qE rfl <| qF <| zY (Γ := {pΓ : (Bool) // (fun (b : Bool) => b = false) pΓ}) (fun g => (fun (b : Bool) => [(3, .pointer (some ⟨x, 0, none⟩)), (6, t52), (71, t52), (72, .int .i64 (zr n1).length), (73, .int .i64 i), (101, .bool b)]) g.1) (fun g => (fun (b : Bool) => [(bS, .cells (iV (zr n1) ++ spS).toArray 3 (0, 0))] :: StD x p v' md nx1 false od' :: Cn' :: C' :: G :: I :: F) g.1) ?_ ?_
       ·
        refine qK <| qA rfl <| q9 (kX rfl) <| qA rfl <| zy (s := 89) rfl (fun hg20_2 => ?_) (fun hg20_2 => ?_)
        · exfalso; cases hDD : D1 a with | none => exact hDa hDD | some z => rw [hDD] at hg20_2; cases hg20_2
        ·
         refine qD rfl rfl (qP rfl) <| qD rfl rfl (y8 rfl rfl) <| qD rfl rfl (qP rfl) <| qY (s := 92) rfl (fun hg20_5 => ?_) (fun hg20_5 => ?_)
         ·
          obtain ⟨a0, ha0⟩ : ∃ a0, (zr n1)[i - 1]? = some a0 := ⟨_, List.getElem?_eq_getElem (by omega)⟩
          have hne := nodup_step hsn (by omega) ha0 ha
          refine qD rfl rfl (qP rfl) <| qD rfl rfl (qP rfl) <| qD rfl rfl (zt rfl rfl (by omega)) <| qD rfl rfl (qx (j := i - 1) (off := (i - 1) * 1) (by rw [hqS]; rfl) rfl (by omega) (by omega) (by simp)) ?_
          refine qD rfl rfl (qI rfl (show wY (iV (zr n1) ++ spS) ((i - 1) * 1) = some (.int .i64 a0) by rw [zB, Nat.mul_one, List.getElem?_append_left (by simp [iV]; omega)]; simp [iV, ha0])) ?_
          refine qD rfl rfl (qP rfl) <| qD rfl rfl (wn rfl rfl) <| qD rfl rfl (qq rfl rfl) <| q9 (qU rfl rfl) <| qT <| qW ⟨_, ?_⟩ ?_
          · (try dsimp only); all_goals first | rfl | exact decide_eq_false hne
          · (try dsimp only); exact qX _
         ·
          refine qL rfl rfl rfl <| qL rfl rfl rfl <| qL rfl rfl rfl <| qL rfl rfl rfl <| qL rfl rfl rfl <| qL rfl rfl rfl <| qL rfl rfl rfl <| qD rfl rfl (qU rfl rfl) <| q9 (qU rfl rfl) <| qT <| qW ⟨_, ?_⟩ ?_
          · (try dsimp only); all_goals first | rfl | exact decide_eq_false hne
          · (try dsimp only); exact qX _
       rintro ⟨b, hcut⟩
       replace hcut : b = false := hcut
       have hb20 := hcut
       show Tr _ _ _ ([(3, .pointer (some ⟨x, 0, none⟩)), (6, t52), (71, t52), (72, .int .i64 (zr n1).length), (73, .int .i64 i), (101, .bool b)]) ([(bS, .cells (iV (zr n1) ++ spS).toArray 3 (0, 0))] :: StD x p v' md nx1 false od' :: Cn' :: C' :: G :: I :: F) _ _
       refine yB rfl (fun hc19 => ?_) (fun hc19 => ?_)
       ·
        refine qO <| qE rfl <| qF <| qy <| wH <| qv <| k5 <| wH <| qv <| wC (G :: I :: F) (.inl rfl) rfl (qu rfl) ?_
        exfalso; rw [hb20] at hc19; cases hc19
       ·
        refine qZ <| qe <| qJ <| qK <| q9 (w9 rfl rfl (by omega)) <| qA rfl <| qT <| w6 ⟨i + 1, ?_⟩ ?_ ?_
        · (try dsimp only); omega
        · (try dsimp only); omega
        · (try dsimp only); exact qX _
      ·
       refine wa <| qr <| qt <| qh <| qJ <| qO <| qE rfl <| qF <| qy <| wC (G :: I :: F) (.inl rfl) rfl (qu rfl) ?_
       exact ⟨rfl, rfl⟩
theorem args1_open {W : World} {H : Type} {enc : TypeId × Value → H} {args : Array Value} {ds : List (DataW H)} {p : List MemPlace} {t0 : TypeId} (hA : DataW.TrodAll enc Tryz.prog W 0 (fun _ => true) true [t0] args.toList ds p) :
    ∃ v0 d0 p0, args = #[v0] ∧ ds = [d0] ∧ DataW.Trod enc Tryz.prog W 0 (fun _ => true) true t0 v0 d0 p0 ∧ p = p0 ++ [] := by
  obtain ⟨l⟩ := args
  obtain ⟨v0, l1, d0, s1, p0, r0, a0, b0, h0, hA, e0⟩ := trodAll_cons hA
  obtain ⟨a3, b3, e3⟩ := trodAll_nil hA
  refine ⟨v0, d0, p0, congrArg List.toArray (show l = _ by rw [← a3]; exact a0), by rw [b0, b3], h0, by rw [e0, e3]⟩
theorem costs_calls {H : Type} {enc : TypeId × Value → H} {W : World} {base : Nat} {args : Array Value} {ds gs : List (DataW H)} {before : List MemPlace}
    (hval0 : ∀ (j : Nat) t v, Tryz.f4.params[j]? = some t → args[j]? = some v → Value.okWide Tryz.prog W .any base t v)
    (hW : DataW.Whole enc Tryz.prog Tryz.f4.params.toList Rows.nodeCostsSpec.vars false W args.toList ds gs before) (hL : laidMetH Tryz.prog JI W) :
    Calls Tryz.prog 4 args W fun e W' => ∃ v, e = .returned v ∧ Rows.nodeCostsSpec.post enc Tryz.prog Tryz.f4 false true false false W args v W' := by
  have hW' := hW
  obtain ⟨p, q, hA, hV, rfl, hfz, hnd⟩ := hW
  have hpar : Tryz.f4.params.toList = [22] := by rw [Tryz.params4]
  rw [hpar] at hA
  rw [Tryz.params4] at hval0
  obtain ⟨v0, d0, p0, rfl, rfl, h0, rfl⟩ := args1_open hA
  obtain ⟨rfl, rfl⟩ := trodVars_none hV
  obtain ⟨G, hG, hGr, hGat⟩ := glob_of_laid hL
  have hall : ∀ i o, W.heap[i]? = some o → (i, o) ∈ ([G, Zh 3 W] : Res).flatten := fun i o h => Va hGr hGat h
  obtain ⟨qa, ca, acts, rfl, hacts, hlen⟩ := acts_of hall (hval0 0 22 v0 rfl rfl) h0
  have hw := costs_ok (w0 := { W with drawn := 0 }) (F := []) (shelfI rfl) shelfP (shelfV rfl) G (Zh 3 W) hG qa ca acts hacts hlen
  refine (hw.h W (own_all hGr hGat)).mono fun e W' ⟨v, L', he, ⟨hv, hL'⟩, ho⟩ => ?_
  subst hv; subst hL'
  have hb := below_all hGr hGat ho
  have hlt : ∀ x ∈ p0 ++ [], x.block < W.heap.size := fun x hx => hW'.lt x (by simpa using hx)
  refine ⟨_, he, ⟨_, _, _, [], p0 ++ [], [], hW', trodAll_mk1 (shut_bool und4 true), ?_, rfl, hb.frame _, fun h => by cases h⟩⟩
  rw [hpar]
  exact ⟨_, _, read_back M6.1 M6.2 h0 hb (fun x hx => hlt x (by simp [hx])), rfl, rfl⟩
theorem costs_lifted (os : Os) (started : os.Started) (H : Type) (enc : TypeId × Value → H) :
    ReturnsInHanded {} Tryz.checked os 4 .any (fun w args => (Rows.nodeCostsSpec.pre enc Tryz.prog Tryz.f4 [] false w args ∧ laidMetH Tryz.prog JI w) ∧ sizedMet enc Tryz.prog Tryz.f4 (OpenSpec.ofChange Rows.nodeCostsSpec) false w args)
      (Rows.nodeCostsSpec.post enc Tryz.prog Tryz.f4 false true false false) := by
  refine returnsInHanded_of_change_and (C := Tryz.checked) (X := fun w _ => laidMetH Tryz.prog JI w) (fun _ _ _ hh h => h.of_heap hh) own_knob started (by kernel_rfl) Tryz.func4
    (ChangeSpec.witness_shaped (enc := enc) (C := Tryz.checked) (os := os) (X := fun w _ => laidMetH Tryz.prog JI w) false (World.doorLaid Tryz.prog 400 os) #[.slice none 0 0] 8 rfl (World.shaped_of_RefB (by kernel_rfl) (by kernel_rfl)) (by kernel_rfl) (by kernel_rfl) (by kernel_rfl) (door_met os _)) ?_
  intro W base args ds gs before hval0 hW _ _ hL _
  exact costs_calls hval0 hW hL
theorem costs_row : Rows.NodeCostsSaid :=
  OpenClaim.holds_of_wide 4 Tryz.f4 rfl rfl rfl rfl rfl rfl rfl ⟨rfl, rfl, rfl, rfl, rfl⟩ rfl rfl rfl rfl rfl (by kernel_rfl) Tryz.func4 (by kernel_rfl)
    (of_decide_eq_true (by kernel_rfl)) (by unfold Func.isWrapper; first | (rw [if_pos (by decide +kernel)]; kernel_rfl) | (rw [if_neg (by decide +kernel)]; exact ⟨rfl, rfl⟩))
    (fun os started H enc _ => costs_lifted os started H enc)
theorem costs_holds : Rows.NodeCostsCardSaid :=
  Claim7.holds_tied_plain_at .later [] [.data, .data, .data] true (true, "2c26ad9126d44e359378a4d7e32ef6c34f7e5eb91ab38820adcb41158b47475a") true
    costs_row (fun _ h => by cases h) (by kernel_rfl) (fun _ h => by cases h) nodeCosts_row_tie rfl ⟨rfl, rfl⟩ (by kernel_rfl) rfl
    (fun f fn hf hfn => by
      obtain rfl : f = 4 := Option.some.inj ((show Tryz.prog.funcNamed "drumlin/drumlinlaw13.NodeCosts" = some 4 by kernel_rfl).symm.trans hf) |>.symm
      obtain rfl : fn = Tryz.f4 := (Option.some.inj (Tryz.func4.symm.trans hfn)).symm
      exact ⟨by kernel_rfl, fun j t ht => by
        rw [Tryz.params4] at ht
        have hm : t ∈ [22] := by simpa using Array.mem_of_getElem? ht
        have hall : ([22].all fun u => !Tryz.prog.wantsStandIn u) = true := by kernel_rfl
        exact (show Tryz.prog.wantsStandIn t = false by simpa using List.all_eq_true.1 hall t hm)⟩)
    (by kernel_rfl)
#print axioms costs_holds
end
end Go.Proofs.YtjikpomndbkfgaaGreatDoor
