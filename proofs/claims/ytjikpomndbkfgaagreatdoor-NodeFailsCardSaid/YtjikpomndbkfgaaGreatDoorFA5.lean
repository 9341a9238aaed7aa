/- NodeFails: for every input that the statement's row lets in the law answers true and its arguments read as before; conditions: none beyond the row's own (part 5; joined, pruned and shortened by a program of the prover's own: names of two letters stand for longer ones.) -/
import Derived.Test.YtjikpomndbkfgaaGreatDoorFA4
set_option linter.all false
set_option linter.unusedVariables false
set_option linter.unusedSimpArgs false
set_option linter.unusedSectionVars false
namespace Go.Sx
open Go
theorem SlC.slice2 {e sz : Nat} {v : Value} {n : Nat} {cs : List Value} {C : qV} (h : SlC e sz v n cs C) : ∃ p c, v = .slice p n c ∧ n ≤ c := by
  rcases h with ⟨rfl, rfl, _, _⟩ | ⟨_, _, _, rfl, _, _, _, h⟩
  · exact ⟨_, _, rfl, Nat.le_refl _⟩
  · exact ⟨_, _, rfl, h⟩
theorem W4 {w0 : World} {L F : Res} {e sz : Nat} {p : Option Addr} {n c l h : Nat} {cs : List Value} {C : qV} (hs : SlC e sz (.slice p n c) n cs C) [ht : Take1 L C F] (h1 : l ≤ h) (h2 : h ≤ n) :
    Reads w0 L (.slice (if c = l then p else p.map (·.add (l * sz))) (h - l) (c - l)) (h - l) sz ((cs.drop (l * sz)).take ((h - l) * sz)) := by
  rcases hs with ⟨he, rfl, rfl, rfl⟩ | ⟨b, cap, spare, he, hcs, rfl, hsp, hc⟩
  · cases he
    have e0 : h - l = 0 := by omega
    exact ⟨_, _, rfl, by simp [e0], .inl (by simp [e0])⟩
  · cases he
    have hle : l * sz + (h - l) * sz ≤ n * sz := by rw [← Nat.add_mul]; exact Nat.mul_le_mul_right _ (by omega)
    refine ⟨_, _, rfl, by rw [List.length_take, List.length_drop, hcs]; omega, ?_⟩
    by_cases e0 : h - l = 0
    · exact .inl (by simp [e0])
    · right
      rw [if_neg (show ¬ c = l by omega)]
      refine ⟨b, l * sz, (cs ++ spare).toArray, e, (0, 0), by simp [yl], (ht.perm.mem_iff).2 (by simp), ?_⟩
      rw [List.toList_toArray, List.drop_append_of_le_length (by omega), List.take_append_of_le_length (by rw [List.length_drop]; omega)]
end Go.Sx
namespace Go.Proofs.YtjikpomndbkfgaaGreatDoor
open Go Go.Sx Go.Nd
set_option maxRecDepth 10000
section
variable {w0 : World} {L F : Res} {ba bl : Nat}
def Qe (x : Int) : List Int → List Int
  | [] => [x]
  | y :: ys => if y ≤ x then y :: Qe x ys else x :: y :: ys
def Wp (xs : List Int) : List Int := xs.foldl (fun o x => Qe x o) []
theorem Jl (x : Int) (l : List Int) : (Qe x l).Perm (x :: l) := by
  induction l with
  | nil => exact List.Perm.refl _
  | cons y ys ih =>
    unfold Qe; split
    · exact (ih.cons y).trans (List.Perm.swap x y ys)
    · exact List.Perm.refl _
theorem insR_sorted (x : Int) (l : List Int) (h : l.Pairwise (· ≤ ·)) : (Qe x l).Pairwise (· ≤ ·) := by
  induction l with
  | nil => simp [Qe]
  | cons y ys ih =>
    have h' := List.pairwise_cons.1 h
    unfold Qe; split
    · rename_i hyx
      refine List.pairwise_cons.2 ⟨fun z hz => ?_, ih h'.2⟩
      rcases List.mem_cons.1 ((Jl x ys).mem_iff.1 hz) with rfl | hz
      · exact hyx
      · exact h'.1 z hz
    · refine List.pairwise_cons.2 ⟨fun z hz => ?_, h⟩
      rcases List.mem_cons.1 hz with rfl | hz
      · omega
      · have := h'.1 z hz; omega
theorem Yy (xs o : List Int) (ho : o.Pairwise (· ≤ ·)) : (xs.foldl (fun o x => Qe x o) o).Pairwise (· ≤ ·) ∧ (xs.foldl (fun o x => Qe x o) o).Perm (o ++ xs) := by
  induction xs generalizing o with
  | nil => exact ⟨ho, by simp⟩
  | cons x xs ih =>
    have h := ih (Qe x o) (insR_sorted x o ho)
    refine ⟨h.1, h.2.trans ?_⟩
    exact ((Jl x o).append_right xs).trans (by simpa using (List.perm_middle (l₁ := o) (l₂ := xs) (a := x)).symm)
theorem insAll_srt (xs : List Int) : Wp xs = srt xs := by
  have h := Yy xs [] (by simp)
  refine List.Perm.eq_of_pairwise (le := fun a b => a ≤ b) (fun a b _ _ h1 h2 => by omega) h.1 ?_ (h.2.trans (by rw [List.nil_append]; exact (List.mergeSort_perm xs _).symm))
  have := List.pairwise_mergeSort (le := fun a b : Int => decide (a ≤ b)) (fun a b c h1 h2 => by simp at *; omega) (fun a b => by simp; omega) xs
  exact this.imp (fun h => by simpa using h)
theorem KI (x : Int) : ∀ (l : List Int) (k : Nat), k ≤ l.length → (∀ y ∈ l.take k, y ≤ x) → (∀ y, l[k]? = some y → x < y) → l.take k ++ [x] ++ l.drop k = Qe x l := by
  intro l
  induction l with
  | nil => intro k hk _ _; simp at hk; subst hk; rfl
  | cons y ys ih =>
    intro k hk h1 h2
    cases k with
    | zero =>
      have := h2 y rfl
      unfold Qe; rw [if_neg (by omega)]; rfl
    | succ k =>
      have := h1 y (by simp)
      unfold Qe; rw [if_pos this]
      have := ih k (by simpa using hk) (fun z hz => h1 z (by simp [hz])) (fun z hz => h2 z (by simpa using hz))
      rw [← this]; rfl
theorem insAll_len (xs : List Int) : (Wp xs).length = xs.length := by
  have := (Yy xs [] (by simp)).2.length_eq
  rwa [List.nil_append] at this
theorem Qf (l : List Int) (i n : Nat) : ((iV l).drop i).take n = iV ((l.drop i).take n) := by simp [iV, List.map_take, List.map_drop]
theorem jW {l : List Int} {r : List Value} {i : Nat} {a : Int} (h : l[i]? = some a) : wX (iV l ++ r) (i * 1) = some (.int .i64 a) := by
  rw [zK, Nat.mul_one, List.getElem?_append_left (by simp [iV]; exact (List.getElem?_eq_some_iff.1 h).1)]; simp [iV, h]
theorem ZT (u : Value) (C : qV) (xs : List Int) (hs : SlC 3 1 u xs.length (iV xs) C) (hl : xs.length ≤ 1000000) :
    FnT Tryz.prog w0 78 #[u] (C :: F) (fun v L' => ∃ C', SlC 3 1 v (srt xs).length (iV (srt xs)) C' ∧ L' = C' :: C :: F) := by
  obtain ⟨pu, cu, hu⟩ := hs.slice
  refine qh (E0 := [(0, _)]) (N := 47) Tryz.func78 rfl rfl rfl rfl ?_
  refine qP <| qD rfl <| qo <| qD rfl <| qF <| qO <| qP <| qD rfl <| qF <| qg <| wV (Γ := {pΓ : (Nat) × (Value) × (qV) × (List Int) // (fun (i : Nat) (uo : Value) (Co : qV) (os : List Int) => i ≤ xs.length ∧ SlC 3 1 uo os.length (iV os) Co ∧ os = Wp (xs.take i)) pΓ.1 pΓ.2.1 pΓ.2.2.1 pΓ.2.2.2}) (fun g => (fun (i : Nat) (uo : Value) (Co : qV) (os : List Int) => [(0, u), (3, uo), (4, .int .i64 i)]) g.1.1 g.1.2.1 g.1.2.2.1 g.1.2.2.2) (fun g => (fun (i : Nat) (uo : Value) (Co : qV) (os : List Int) => Co :: C :: F) g.1.1 g.1.2.1 g.1.2.2.1 g.1.2.2.2) (fun g => (fun (i : Nat) (uo : Value) (Co : qV) (os : List Int) => xs.length - i) g.1.1 g.1.2.1 g.1.2.2.1 g.1.2.2.2) ⟨(0, .slice none 0 0, [], []), by dsimp only; exact ⟨by omega, SlC.nil _ _, rfl⟩⟩ (qX _) ?_
  rintro ⟨⟨i, uo, Co, os⟩, hloop⟩
  replace hloop : i ≤ xs.length ∧ SlC 3 1 uo os.length (iV os) Co ∧ os = Wp (xs.take i) := hloop
  obtain ⟨hi, hsl, hos⟩ := hloop
  show Tr _ _ _ ([(0, u), (3, uo), (4, .int .i64 i)]) (Co :: C :: F) _ _
  refine qO <| qP <| qB rfl <| qB rfl <| q9 (wD (by rw [← hu]; rfl)) ?_
  refine q9 (wL rfl rfl) <| qF <| qL rfl (fun hc3 => ?_) (fun hc3 => ?_)
  ·
   refine qZ <| qI <| qO <| qg <| qO ?_
   obtain ⟨x, hx⟩ : ∃ x, xs[i]? = some x := ⟨_, List.getElem?_eq_getElem (by omega)⟩
   have hol : os.length = i := by rw [hos, insAll_len]; simp; omega
   obtain ⟨po, co, hvo, hcap⟩ := hsl.slice2
   subst hvo
   rcases hs with ⟨-, h0, -⟩ | ⟨bu, cu2, spu, hu2, hcu, rfl, hcapu, hncu⟩
   · omega
   subst hu2
   refine qK <| qD rfl <| qF <| zb (Γ := {pΓ : (Nat) // (fun (k : Nat) => k ≤ os.length ∧ (∀ y ∈ os.take k, y ≤ x) ∧ (∀ y, os[k]? = some y → x < y)) pΓ}) (fun g => (fun (k : Nat) => [(0, .slice (some ⟨bu, 0, none⟩) xs.length cu2), (3, .slice po os.length co), (4, .int .i64 i), (5, .int .i64 k)]) g.1) (fun g => (fun (k : Nat) => Co :: [(bu, .cells (iV xs ++ spu).toArray 3 (0, 0))] :: F) g.1) ?_ ?_
   ·
    refine qg <| wV (Γ := {pΓ : (Nat) // (fun (k : Nat) => k ≤ os.length ∧ ∀ y ∈ os.take k, y ≤ x) pΓ}) (fun g => (fun (k : Nat) => [(0, .slice (some ⟨bu, 0, none⟩) xs.length cu2), (3, .slice po os.length co), (4, .int .i64 i), (5, .int .i64 k)]) g.1) (fun g => (fun (k : Nat) => Co :: [(bu, .cells (iV xs ++ spu).toArray 3 (0, 0))] :: F) g.1) (fun g => (fun (k : Nat) => os.length - k) g.1) ⟨0, by dsimp only; exact ⟨by omega, by simp⟩⟩ (qX _) ?_
    rintro ⟨k, hloop⟩
    replace hloop : k ≤ os.length ∧ ∀ y ∈ os.take k, y ≤ x := hloop
    obtain ⟨hk, hle⟩ := hloop
    show Tr _ _ _ ([(0, .slice (some ⟨bu, 0, none⟩) xs.length cu2), (3, .slice po os.length co), (4, .int .i64 i), (5, .int .i64 k)]) (Co :: [(bu, .cells (iV xs ++ spu).toArray 3 (0, 0))] :: F) _ _
    refine qO <| qO <| wQ w8 <| wE [(13, .pure _), (14, .pure _), (15, .pure _)] (by kernel_rfl) rfl rfl rfl wd (qC rfl (fun X => qM rfl) <| qC rfl (fun X => qM rfl) <| qC rfl (fun X => wD rfl) <| ParH.nil rfl) ?_
    dsimp only [zQ, List.drop, List.length]
    refine qm (by kernel_rfl) (wL rfl rfl) ?_
    refine qm (by kernel_rfl) (qM rfl) ?_
    refine zi (s := 17) rfl (fun hg6_4 => ?_) (fun hg6_4 => ?_)
    ·
     obtain ⟨y, hy⟩ : ∃ y, os[k]? = some y := ⟨_, List.getElem?_eq_getElem (by omega)⟩
     rcases id hsl with ⟨-, h0, -⟩ | ⟨b, cap, spare, hv, hcs, rfl, hcapo, hnc⟩
     · omega
     cases hv
     refine wE [(18, .pure _), (19, .pure _), (20, .pure _), (21, .pure _), (22, .pure _), (23, .pure _), (24, .pure _), (25, .pure _)] (by kernel_rfl) rfl rfl rfl wd (wH rfl rfl rfl (fun X => qM rfl) <| wH rfl rfl rfl (fun X => qM rfl) <| wH rfl rfl rfl (fun X => qw (j := k) (off := k * 1) rfl rfl rfl (by omega) (by simp)) <| wH rfl rfl rfl (fun X => qH rfl (jW hy)) <| wH rfl rfl rfl (fun X => qM rfl) <| wH rfl rfl rfl (fun X => qM rfl) <| wH rfl rfl rfl (fun X => qw (j := i) (off := i * 1) rfl rfl rfl (by omega) (by simp)) <| wH rfl rfl rfl (fun X => qH rfl (jW hx)) <| ParH.nil rfl) ?_
     dsimp only [zQ, List.drop, List.length]
     refine zm (by kernel_rfl) rfl rfl (Kh rfl rfl) ?_
     refine qm (by kernel_rfl) (qk rfl rfl) ?_
     refine wI <| qI <| qL rfl (fun hc6 => ?_) (fun hc6 => ?_)
     ·
      refine qZ <| qI <| qg <| qK <| qB rfl <| q9 (w9 rfl rfl (by omega)) <| qD rfl <| qT <| qf <| w5 ⟨k + 1, ?_⟩ ?_ ?_
      ·
       try dsimp only
       refine ⟨by omega, fun z hz => ?_⟩
       rw [List.take_add_one, hy] at hz
       rcases List.mem_append.1 hz with hz | hz
       · exact hle z hz
       · obtain rfl : z = y := by simpa using hz
         omega
      · (try dsimp only); omega
      · (try dsimp only); exact qX _
     ·
      refine wb <| qr <| qt <| qj <| qW ⟨k, ?_⟩ ?_
      ·
       try dsimp only
       first
       | exact ⟨hk, hle, fun z hz => by rw [hy] at hz; cases hz; omega⟩
       | exact ⟨hk, hle, fun z hz => by have := (List.getElem?_eq_some_iff.1 hz).1; omega⟩
      · (try dsimp only); exact qX _
    ·
     refine wE [(18, .pure undef), (19, .pure undef), (20, .pure undef), (21, .pure undef), (22, .pure undef), (23, .pure undef), (24, .pure undef), (25, .pure undef)] (by kernel_rfl) rfl rfl rfl wd (zq rfl rfl rfl rfl <| zq rfl rfl rfl rfl <| zq rfl rfl rfl rfl <| zq rfl rfl rfl rfl <| zq rfl rfl rfl rfl <| zq rfl rfl rfl rfl <| zq rfl rfl rfl rfl <| zq rfl rfl rfl rfl <| ParH.nil rfl) ?_
     dsimp only [zQ, List.drop, List.length]
     refine jY (by kernel_rfl) rfl rfl rfl ?_
     refine qm (by kernel_rfl) (qU rfl rfl) ?_
     refine wI <| qI <| wU rfl <| wb <| qr <| qt <| qj <| qW ⟨k, ?_⟩ ?_
     ·
      try dsimp only
      first
      | exact ⟨hk, hle, fun z hz => by rw [hy] at hz; cases hz; omega⟩
      | exact ⟨hk, hle, fun z hz => by have := (List.getElem?_eq_some_iff.1 hz).1; omega⟩
     · (try dsimp only); exact qX _
   rintro ⟨k, hcut⟩
   replace hcut : k ≤ os.length ∧ (∀ y ∈ os.take k, y ≤ x) ∧ (∀ y, os[k]? = some y → x < y) := hcut
   obtain ⟨hk, hle, hgt⟩ := hcut
   show Tr _ _ _ ([(0, .slice (some ⟨bu, 0, none⟩) xs.length cu2), (3, .slice po os.length co), (4, .int .i64 i), (5, .int .i64 k)]) (Co :: [(bu, .cells (iV xs ++ spu).toArray 3 (0, 0))] :: F) _ _
   refine qP <| qG (QC) ?_
   rintro t30 _ ⟨be, rfl, rfl⟩
   refine qB rfl <| qB rfl <| q9 (kf (kl := .i64) (kh := .i64) (l := 0) (h := k) rfl rfl rfl (by omega) (by omega) hcap) <| qG (wg (m := k - 0) (sz := 1) rfl rfl (SlC.fresh (b := be) (n := 0) (cs := []) rfl) (W4 (l := 0) (h := k) hsl (by omega) (by omega)) (by rw [Qf]; exact xH _) Tryz.underlying39 rfl rfl (by omega)) ?_
   rintro t34 _ ⟨C', hs', rfl⟩
   refine qD rfl <| qT ?_
   have hs2 : SlC 3 1 t34 k (iV (os.take k)) C' := by rw [List.nil_append, Qf] at hs'; simpa using hs'
   refine qI <| yT w8 (show TrS _ _ _ _ [false, false, false, false, false, false, false, false, false, false, false, false] _ _ _ from ?_)
   refine qJ 0 rfl rfl rfl (wP rfl) <| qJ 1 rfl rfl rfl (wP rfl) <| qJ 2 rfl rfl rfl (wP rfl) <| qJ 3 rfl rfl rfl (wv (j := i) (off := i * 1) rfl rfl rfl (by omega) (by simp)) ?_
   refine qJ 7 rfl rfl rfl (wP rfl) <| qJ 8 rfl rfl rfl (wP rfl) <| wy (i := 4) (j := 9) (by kernel_rfl) rfl ?_ ?_
   ·
    refine qe rfl rfl rfl (qH rfl (jW hx)) <| wy (i := 5) (j := 9) (by kernel_rfl) rfl ?_ ?_
    ·
     refine wB rfl rfl rfl (wK rfl rfl rfl) ?_
     rintro t40 _ ⟨b40, rfl, rfl⟩
     refine wy (i := 6) (j := 9) (by kernel_rfl) rfl ?_ ?_
     ·
      refine wB rfl rfl rfl (wg (m := 1) (sz := 1) rfl rfl hs2 (wi (ys := iV [x]) inferInstance rfl rfl) rfl Tryz.underlying39 rfl rfl (by omega)) ?_
      rintro t41 _ ⟨C2, hs3, rfl⟩
      refine qR 9 rfl <| qe rfl rfl rfl (kf (kl := .i64) (kh := .i64) (l := k) (h := os.length) rfl rfl rfl (by omega) (by omega) hcap) <| qR 10 rfl <| wB rfl rfl rfl (wg (m := os.length - k) (sz := 1) rfl rfl hs3 (W4 (l := k) (h := os.length) hsl (by omega) (by omega)) (by rw [Qf]; exact xH _) Tryz.underlying39 rfl rfl (by omega)) ?_
      rintro t45 _ ⟨C4, hs4, rfl⟩
      refine qJ 11 rfl rfl rfl (wM rfl) <| wG <| qf <| qI <| qK <| qB rfl <| q9 (w9 rfl rfl (by omega)) <| qD rfl <| qT <| w5 ⟨(i + 1, t45, C4, Qe x os), ?_⟩ ?_ ?_
      ·
       try dsimp only
       have e := KI x os k hk hle hgt
       have el : (Qe x os).length = k + 1 + (os.length - k) := by rw [← e]; simp; omega
       have ev : iV (os.take k ++ [x] ++ os.drop k) = iV (os.take k) ++ iV [x] ++ ((iV os).drop (k * 1)).take ((os.length - k) * 1) := by rw [Qf, Nat.mul_one, Nat.mul_one, List.take_of_length_le (l := os.drop k) (by rw [List.length_drop]; omega)]; simp [iV]
       refine ⟨by omega, by rw [el, ← e, ev]; exact hs4, ?_⟩
       rw [hos]; unfold Wp; rw [List.take_add_one, hx, List.foldl_append]; rfl
      · (try dsimp only); omega
      · (try dsimp only); exact qX _
     ·
      refine qe rfl rfl rfl (kf (kl := .i64) (kh := .i64) (l := k) (h := os.length) rfl rfl rfl (by omega) (by omega) hcap) <| qR 6 rfl <| wB rfl rfl rfl (wg (m := 1) (sz := 1) rfl rfl hs2 (wi (ys := iV [x]) inferInstance rfl rfl) rfl Tryz.underlying39 rfl rfl (by omega)) ?_
      rintro t41 _ ⟨C2, hs3, rfl⟩
      refine qR 10 rfl <| wB rfl rfl rfl (wg (m := os.length - k) (sz := 1) rfl rfl hs3 (W4 (l := k) (h := os.length) hsl (by omega) (by omega)) (by rw [Qf]; exact xH _) Tryz.underlying39 rfl rfl (by omega)) ?_
      rintro t45 _ ⟨C4, hs4, rfl⟩
      refine qJ 11 rfl rfl rfl (wM rfl) <| wG <| qf <| qI <| qK <| qB rfl <| q9 (w9 rfl rfl (by omega)) <| qD rfl <| qT <| w5 ⟨(i + 1, t45, C4, Qe x os), ?_⟩ ?_ ?_
      ·
       try dsimp only
       have e := KI x os k hk hle hgt
       have el : (Qe x os).length = k + 1 + (os.length - k) := by rw [← e]; simp; omega
       have ev : iV (os.take k ++ [x] ++ os.drop k) = iV (os.take k) ++ iV [x] ++ ((iV os).drop (k * 1)).take ((os.length - k) * 1) := by rw [Qf, Nat.mul_one, Nat.mul_one, List.take_of_length_le (l := os.drop k) (by rw [List.length_drop]; omega)]; simp [iV]
       refine ⟨by omega, by rw [el, ← e, ev]; exact hs4, ?_⟩
       rw [hos]; unfold Wp; rw [List.take_add_one, hx, List.foldl_append]; rfl
      · (try dsimp only); omega
      · (try dsimp only); exact qX _
    ·
     refine qe rfl rfl rfl (kf (kl := .i64) (kh := .i64) (l := k) (h := os.length) rfl rfl rfl (by omega) (by omega) hcap) <| qR 5 rfl <| wB rfl rfl rfl (wK rfl rfl rfl) ?_
     rintro t40 _ ⟨b40, rfl, rfl⟩
     refine qR 6 rfl <| wB rfl rfl rfl (wg (m := 1) (sz := 1) rfl rfl hs2 (wi (ys := iV [x]) inferInstance rfl rfl) rfl Tryz.underlying39 rfl rfl (by omega)) ?_
     rintro t41 _ ⟨C2, hs3, rfl⟩
     refine qR 10 rfl <| wB rfl rfl rfl (wg (m := os.length - k) (sz := 1) rfl rfl hs3 (W4 (l := k) (h := os.length) hsl (by omega) (by omega)) (by rw [Qf]; exact xH _) Tryz.underlying39 rfl rfl (by omega)) ?_
     rintro t45 _ ⟨C4, hs4, rfl⟩
     refine qJ 11 rfl rfl rfl (wM rfl) <| wG <| qf <| qI <| qK <| qB rfl <| q9 (w9 rfl rfl (by omega)) <| qD rfl <| qT <| w5 ⟨(i + 1, t45, C4, Qe x os), ?_⟩ ?_ ?_
     ·
      try dsimp only
      have e := KI x os k hk hle hgt
      have el : (Qe x os).length = k + 1 + (os.length - k) := by rw [← e]; simp; omega
      have ev : iV (os.take k ++ [x] ++ os.drop k) = iV (os.take k) ++ iV [x] ++ ((iV os).drop (k * 1)).take ((os.length - k) * 1) := by rw [Qf, Nat.mul_one, Nat.mul_one, List.take_of_length_le (l := os.drop k) (by rw [List.length_drop]; omega)]; simp [iV]
      refine ⟨by omega, by rw [el, ← e, ev]; exact hs4, ?_⟩
      rw [hos]; unfold Wp; rw [List.take_add_one, hx, List.foldl_append]; rfl
     · (try dsimp only); omega
     · (try dsimp only); exact qX _
   ·
    refine qe rfl rfl rfl (kf (kl := .i64) (kh := .i64) (l := k) (h := os.length) rfl rfl rfl (by omega) (by omega) hcap) <| qR 4 rfl <| qe rfl rfl rfl (qH rfl (jW hx)) <| qR 5 rfl <| wB rfl rfl rfl (wK rfl rfl rfl) ?_
    rintro t40 _ ⟨b40, rfl, rfl⟩
    refine qR 6 rfl <| wB rfl rfl rfl (wg (m := 1) (sz := 1) rfl rfl hs2 (wi (ys := iV [x]) inferInstance rfl rfl) rfl Tryz.underlying39 rfl rfl (by omega)) ?_
    rintro t41 _ ⟨C2, hs3, rfl⟩
    refine qR 10 rfl <| wB rfl rfl rfl (wg (m := os.length - k) (sz := 1) rfl rfl hs3 (W4 (l := k) (h := os.length) hsl (by omega) (by omega)) (by rw [Qf]; exact xH _) Tryz.underlying39 rfl rfl (by omega)) ?_
    rintro t45 _ ⟨C4, hs4, rfl⟩
    refine qJ 11 rfl rfl rfl (wM rfl) <| wG <| qf <| qI <| qK <| qB rfl <| q9 (w9 rfl rfl (by omega)) <| qD rfl <| qT <| w5 ⟨(i + 1, t45, C4, Qe x os), ?_⟩ ?_ ?_
    ·
     try dsimp only
     have e := KI x os k hk hle hgt
     have el : (Qe x os).length = k + 1 + (os.length - k) := by rw [← e]; simp; omega
     have ev : iV (os.take k ++ [x] ++ os.drop k) = iV (os.take k) ++ iV [x] ++ ((iV os).drop (k * 1)).take ((os.length - k) * 1) := by rw [Qf, Nat.mul_one, Nat.mul_one, List.take_of_length_le (l := os.drop k) (by rw [List.length_drop]; omega)]; simp [iV]
     refine ⟨by omega, by rw [el, ← e, ev]; exact hs4, ?_⟩
     rw [hos]; unfold Wp; rw [List.take_add_one, hx, List.foldl_append]; rfl
    · (try dsimp only); omega
    · (try dsimp only); exact qX _
  ·
   refine wb <| qr <| qt <| qj <| qI <| qO ?_
   obtain rfl : i = xs.length := by omega
   rw [List.take_length, insAll_srt] at hos
   subst hos
   refine qK <| qB rfl <| qD rfl <| qF <| qz <| wF (Co :: C :: F) (.inl rfl) rfl (qu rfl) ?_
   exact ⟨Co, hsl, rfl⟩
def nz (l : List Int) : List Int := l.filter (fun a => decide (a ≠ 0))
def YF (W : RS) (i : Nat) : List Int := nz (((zo 1064).take i).map (fun j => (W.all j).at_))
def lvA (W : RS) (i : Nat) : List Int := nz (((zo 32).take i).map (fun j => (W.leaves j).at_))
def Qp (W : RS) : List Int := [W.sg.at_, W.db.at_, W.self.at_]
def ME (W : RS) : List Int := W.gone ++ YF W 1064 ++ lvA W 32 ++ nz (Qp W)
def Zl (W : RS) : List Int := srt (ME W)
theorem XL (l : List Int) (a : Int) : nz (l ++ [a]) = nz l ++ (if a ≠ 0 then [a] else []) := by
  unfold nz; rw [List.filter_append]; congr 1; simp only [List.filter_cons, List.filter_nil, decide_eq_true_eq]
theorem XM (l : List Int) : (nz l).length ≤ l.length := List.length_filter_le _ _
theorem ZJ {n i : Nat} (h : i < n) (f : Int → Int) : ((zo n).take (i + 1)).map f = ((zo n).take i).map f ++ [f i] := by
  rw [List.take_add_one, kx h, List.map_append]; rfl
theorem allA_step (W : RS) {i : Nat} (h : i < 1064) : YF W (i + 1) = YF W i ++ (if (W.all i).at_ ≠ 0 then [(W.all i).at_] else []) := by
  unfold YF; rw [ZJ h, XL]
theorem lvA_step (W : RS) {i : Nat} (h : i < 32) : lvA W (i + 1) = lvA W i ++ (if (W.leaves i).at_ ≠ 0 then [(W.leaves i).at_] else []) := by
  unfold lvA; rw [ZJ h, XL]
theorem YE (W : RS) (i : Nat) (h : i ≤ 1064) : (YF W i).length ≤ 1064 := by
  refine Nat.le_trans (XM _) ?_; rw [List.length_map, List.length_take]; omega
theorem XN (W : RS) (i : Nat) (h : i ≤ 32) : (lvA W i).length ≤ 32 := by
  refine Nat.le_trans (XM _) ?_; rw [List.length_map, List.length_take]; omega
theorem rsectors_ok (W : RS) (v : List Value) (C : qV) (hw : RefC ba bl W v C) (hgl : W.gone.length ≤ 900000) :
    FnT Tryz.prog w0 62 #[.agg v.toArray] (C :: F) (fun v L' => ∃ C', SlC 3 1 v (Zl W).length (iV (Zl W)) C' ∧ L' = C' :: C :: F) := by
  obtain ⟨pg, cg, Cg, hv, hs, hC⟩ := hw.at
  have hvlen := hw.len
  refine qh (E0 := [(0, _)]) (N := 80) Tryz.func62 rfl rfl rfl rfl ?_
  refine qP <| qG (wq rfl) ?_
  rintro t1 _ ⟨b1, rfl, rfl⟩
  refine qD rfl <| qF <| qO <| yx (L' := [(b1, .cells v.toArray 41 (0, 0))] :: [(ba, .cells ((zA W.all).flatMap z7 ++ []).toArray 125 (0, 0))] :: [(bl, .cells ((wO W.leaves).flatMap z6 ++ []).toArray 38 (0, 0))] :: Cg :: F) (by rw [hC]; exact (yV (by intro f; simp only [List.flatten_cons, List.flatten_nil, List.append_nil, List.countP_append, List.countP_cons, List.countP_nil]; omega))) ?_
  refine qK <| qG (QC) ?_
  rintro t8 _ ⟨be, rfl, rfl⟩
  refine q9 (qA rfl) <| q9 (qH rfl (show wX v 13 = some (.slice pg W.gone.length cg) by rw [hv]; rfl)) <| qG (wg (m := W.gone.length) (sz := 1) rfl rfl (SlC.fresh (b := be) (n := 0) (cs := []) rfl) (j6 hs) (xH _) Tryz.underlying39 rfl rfl (by omega)) ?_
  rintro t11 _ ⟨C', hs', rfl⟩
  refine qD rfl <| qT ?_
  rw [List.nil_append, Nat.zero_add] at hs'
  refine zM (L' := C' :: [(b1, .cells v.toArray 41 (0, 0))] :: C :: F) (by rw [hC]; exact (yV (by intro f; simp only [List.flatten_cons, List.flatten_nil, List.append_nil, List.countP_append, List.countP_cons, List.countP_nil]; omega))) ?_
  refine qI <| qO <| qP <| qD rfl <| qF <| qg <| wV (Γ := {pΓ : (Nat) × (Value) × (qV) × (List Int) // (fun (i : Nat) (uo : Value) (Co : qV) (os : List Int) => i ≤ 1064 ∧ SlC 3 1 uo os.length (iV os) Co ∧ os = W.gone ++ YF W i) pΓ.1 pΓ.2.1 pΓ.2.2.1 pΓ.2.2.2}) (fun g => (fun (i : Nat) (uo : Value) (Co : qV) (os : List Int) => [(1, .pointer (some ⟨b1, 0, none⟩)), (3, uo), (4, .int .i64 i)]) g.1.1 g.1.2.1 g.1.2.2.1 g.1.2.2.2) (fun g => (fun (i : Nat) (uo : Value) (Co : qV) (os : List Int) => Co :: [(b1, .cells v.toArray 41 (0, 0))] :: C :: F) g.1.1 g.1.2.1 g.1.2.2.1 g.1.2.2.2) (fun g => (fun (i : Nat) (uo : Value) (Co : qV) (os : List Int) => 1064 - i) g.1.1 g.1.2.1 g.1.2.2.1 g.1.2.2.2) ⟨(0, t11, C', W.gone), by dsimp only; exact ⟨by omega, hs', by simp [YF, nz]⟩⟩ (qX _) ?_
  rintro ⟨⟨i, uo, Co, os⟩, hloop⟩
  replace hloop : i ≤ 1064 ∧ SlC 3 1 uo os.length (iV os) Co ∧ os = W.gone ++ YF W i := hloop
  obtain ⟨hi, hsl, hos⟩ := hloop
  show Tr _ _ _ ([(1, .pointer (some ⟨b1, 0, none⟩)), (3, uo), (4, .int .i64 i)]) (Co :: [(b1, .cells v.toArray 41 (0, 0))] :: C :: F) _ _
  refine qO <| qP <| qB rfl <| q9 (wL rfl rfl) <| qF <| qL rfl (fun hc3 => ?_) (fun hc3 => ?_)
  ·
   refine qZ <| qI <| qO <| qg <| qO ?_
   have hst := allA_step W (show i < 1064 by omega)
   have hol : os.length ≤ 901064 := by rw [hos, List.length_append]; have := YE W i hi; omega
   refine qK <| q9 (qA rfl) <| q9 (qH rfl (show wX v 5 = some (.slice (some ⟨ba, 0, none⟩) 1064 1064) by rw [hv]; rfl)) <| qB rfl <| q9 (qw (j := i) (off := i * 131) rfl rfl rfl (by omega) (by simp)) ?_
   refine q9 (w6 rfl) <| q9 (zY (j := i) (k := 1) (v := .int .i64 (W.all i).at_) zg rfl (show (ba, Obj.cells ((zA W.all).flatMap z7 ++ []).toArray 125 (0, 0)) ∈ List.flatten _ by rw [hC]; simp) (y2 (by omega)) rfl rfl) <| q9 (wz rfl rfl) <| qF <| qL rfl (fun hc5 => ?_) (fun hc5 => ?_)
   ·
    refine qK <| qB rfl <| q9 (qA rfl) <| q9 (qH rfl (show wX v 5 = some (.slice (some ⟨ba, 0, none⟩) 1064 1064) by rw [hv]; rfl)) <| qB rfl <| q9 (qw (j := i) (off := i * 131) rfl rfl rfl (by omega) (by simp)) ?_
    refine q9 (w6 rfl) <| q9 (zY (j := i) (k := 1) (v := .int .i64 (W.all i).at_) zg rfl (show (ba, Obj.cells ((zA W.all).flatMap z7 ++ []).toArray 125 (0, 0)) ∈ List.flatten _ by rw [hC]; simp) (y2 (by omega)) rfl rfl) <| qG (wK rfl rfl rfl) ?_
    rintro t30 _ ⟨b30, rfl, rfl⟩
    refine qG (wg (m := 1) (sz := 1) rfl rfl hsl (wi (ys := iV [(W.all i).at_]) inferInstance rfl rfl) rfl Tryz.underlying39 rfl rfl (by omega)) ?_
    rintro t31 _ ⟨C', hs', rfl⟩
    refine qD rfl <| qT <| qf <| qI <| qK <| qB rfl <| q9 (w9 rfl rfl (by omega)) <| qD rfl <| qT <| w5 ⟨(i + 1, t31, C', os ++ [(W.all i).at_]), ?_⟩ ?_ ?_
    · (try dsimp only); exact ⟨by omega, by rw [List.length_append]; simpa [iV] using hs', by rw [hst, if_pos hc5, hos, List.append_assoc]⟩
    · (try dsimp only); omega
    · (try dsimp only); exact qX _
   ·
    refine qZ <| qf <| qI <| qK <| qB rfl <| q9 (w9 rfl rfl (by omega)) <| qD rfl <| qT <| w5 ⟨(i + 1, uo, Co, os), ?_⟩ ?_ ?_
    · (try dsimp only); exact ⟨by omega, hsl, by rw [hst, if_neg hc5, hos, List.append_nil]⟩
    · (try dsimp only); omega
    · (try dsimp only); exact qX _
  ·
   refine wb <| qr <| qt <| qj <| qI <| qO <| qO ?_
   obtain rfl : i = 1064 := by omega
   refine qK <| qD rfl <| qF <| qg <| wV (Γ := {pΓ : (Nat) × (Value) × (qV) × (List Int) // (fun (k : Nat) (uo : Value) (Co : qV) (os : List Int) => k ≤ 32 ∧ SlC 3 1 uo os.length (iV os) Co ∧ os = W.gone ++ YF W 1064 ++ lvA W k) pΓ.1 pΓ.2.1 pΓ.2.2.1 pΓ.2.2.2}) (fun g => (fun (k : Nat) (uo : Value) (Co : qV) (os : List Int) => [(1, .pointer (some ⟨b1, 0, none⟩)), (3, uo), (5, .int .i64 k)]) g.1.1 g.1.2.1 g.1.2.2.1 g.1.2.2.2) (fun g => (fun (k : Nat) (uo : Value) (Co : qV) (os : List Int) => Co :: [(b1, .cells v.toArray 41 (0, 0))] :: C :: F) g.1.1 g.1.2.1 g.1.2.2.1 g.1.2.2.2) (fun g => (fun (k : Nat) (uo : Value) (Co : qV) (os : List Int) => 32 - k) g.1.1 g.1.2.1 g.1.2.2.1 g.1.2.2.2) ⟨(0, uo, Co, os), by dsimp only; exact ⟨by omega, hsl, by simp [lvA, nz, hos]⟩⟩ (qX _) ?_
   rintro ⟨⟨k, uo, Co, os⟩, hloop⟩
   replace hloop : k ≤ 32 ∧ SlC 3 1 uo os.length (iV os) Co ∧ os = W.gone ++ YF W 1064 ++ lvA W k := hloop
   obtain ⟨hk, hsl, hos⟩ := hloop
   show Tr _ _ _ ([(1, .pointer (some ⟨b1, 0, none⟩)), (3, uo), (5, .int .i64 k)]) (Co :: [(b1, .cells v.toArray 41 (0, 0))] :: C :: F) _ _
   refine qO <| qP <| qB rfl <| q9 (wL rfl rfl) <| qF <| qL rfl (fun hc8 => ?_) (fun hc8 => ?_)
   ·
    refine qZ <| qI <| qO <| qg <| qO ?_
    have hst := lvA_step W (show k < 32 by omega)
    have hol : os.length ≤ 901096 := by rw [hos, List.length_append, List.length_append]; have := YE W 1064 (by omega); have := XN W k hk; omega
    refine qK <| q9 (qA rfl) <| q9 (qH rfl (show wX v 6 = some (.slice (some ⟨bl, 0, none⟩) 32 32) by rw [hv]; rfl)) <| qB rfl <| q9 (qw (j := k) (off := k * 2) rfl rfl rfl (by omega) (by simp)) ?_
    refine q9 (w6 rfl) <| q9 (zY (j := k) (k := 0) (v := .int .i64 (W.leaves k).at_) zT rfl (show (bl, Obj.cells ((wO W.leaves).flatMap z6 ++ []).toArray 38 (0, 0)) ∈ List.flatten _ by rw [hC]; simp) (zD (by omega)) rfl rfl) <| q9 (wz rfl rfl) <| qF <| qL rfl (fun hc10 => ?_) (fun hc10 => ?_)
    ·
     refine qK <| qB rfl <| q9 (qA rfl) <| q9 (qH rfl (show wX v 6 = some (.slice (some ⟨bl, 0, none⟩) 32 32) by rw [hv]; rfl)) <| qB rfl <| q9 (qw (j := k) (off := k * 2) rfl rfl rfl (by omega) (by simp)) ?_
     refine q9 (w6 rfl) <| q9 (zY (j := k) (k := 0) (v := .int .i64 (W.leaves k).at_) zT rfl (show (bl, Obj.cells ((wO W.leaves).flatMap z6 ++ []).toArray 38 (0, 0)) ∈ List.flatten _ by rw [hC]; simp) (zD (by omega)) rfl rfl) <| qG (wK rfl rfl rfl) ?_
     rintro t50 _ ⟨b50, rfl, rfl⟩
     refine qG (wg (m := 1) (sz := 1) rfl rfl hsl (wi (ys := iV [(W.leaves k).at_]) inferInstance rfl rfl) rfl Tryz.underlying39 rfl rfl (by omega)) ?_
     rintro t51 _ ⟨C', hs', rfl⟩
     refine qD rfl <| qT <| qf <| qI <| qK <| qB rfl <| q9 (w9 rfl rfl (by omega)) <| qD rfl <| qT <| w5 ⟨(k + 1, t51, C', os ++ [(W.leaves k).at_]), ?_⟩ ?_ ?_
     · (try dsimp only); exact ⟨by omega, by rw [List.length_append]; simpa [iV] using hs', by rw [hst, if_pos hc10, hos]; simp only [List.append_assoc]⟩
     · (try dsimp only); omega
     · (try dsimp only); exact qX _
    ·
     refine qZ <| qf <| qI <| qK <| qB rfl <| q9 (w9 rfl rfl (by omega)) <| qD rfl <| qT <| w5 ⟨(k + 1, uo, Co, os), ?_⟩ ?_ ?_
     · (try dsimp only); exact ⟨by omega, hsl, by rw [hst, if_neg hc10, hos, List.append_nil]⟩
     · (try dsimp only); omega
     · (try dsimp only); exact qX _
   ·
    refine wb <| qr <| qt <| qj <| qI <| qO ?_
    obtain rfl : k = 32 := by omega
    refine qK <| q9 (qA rfl) <| q9 (w6 rfl) <| q9 (qH rfl (show wX v 7 = some (.int .i64 W.sg.at_) by rw [hv]; rfl)) <| q9 (qA rfl) <| q9 (w6 rfl) <| q9 (qH rfl (show wX v 9 = some (.int .i64 W.db.at_) by rw [hv]; rfl)) <| q9 (qA rfl) <| q9 (w6 rfl) <| q9 (qH rfl (show wX v 11 = some (.int .i64 W.self.at_) by rw [hv]; rfl)) <| qG (wK rfl rfl rfl) ?_
    rintro t61 _ ⟨b61, rfl, rfl⟩
    refine qD rfl <| qF <| qO <| qP <| qD rfl <| qF <| qg <| wV (Γ := {pΓ : (Nat) × (Value) × (qV) × (List Int) // (fun (j : Nat) (uo : Value) (Co : qV) (os : List Int) => j ≤ 3 ∧ SlC 3 1 uo os.length (iV os) Co ∧ os = W.gone ++ YF W 1064 ++ lvA W 32 ++ nz ((Qp W).take j)) pΓ.1 pΓ.2.1 pΓ.2.2.1 pΓ.2.2.2}) (fun g => (fun (j : Nat) (uo : Value) (Co : qV) (os : List Int) => [(3, uo), (6, .slice (some ⟨b61, 0, none⟩) 3 3), (7, .int .i64 j)]) g.1.1 g.1.2.1 g.1.2.2.1 g.1.2.2.2) (fun g => (fun (j : Nat) (uo : Value) (Co : qV) (os : List Int) => [(b61, .cells (iV (Qp W) ++ []).toArray 3 (0, 0))] :: Co :: [(b1, .cells v.toArray 41 (0, 0))] :: C :: F) g.1.1 g.1.2.1 g.1.2.2.1 g.1.2.2.2) (fun g => (fun (j : Nat) (uo : Value) (Co : qV) (os : List Int) => 3 - j) g.1.1 g.1.2.1 g.1.2.2.1 g.1.2.2.2) ⟨(0, uo, Co, os), by dsimp only; exact ⟨by omega, hsl, by simp [nz, hos]⟩⟩ (yW rfl) ?_
    rintro ⟨⟨j, uo, Co, os⟩, hloop⟩
    replace hloop : j ≤ 3 ∧ SlC 3 1 uo os.length (iV os) Co ∧ os = W.gone ++ YF W 1064 ++ lvA W 32 ++ nz ((Qp W).take j) := hloop
    obtain ⟨hj, hsl, hos⟩ := hloop
    show Tr _ _ _ ([(3, uo), (6, .slice (some ⟨b61, 0, none⟩) 3 3), (7, .int .i64 j)]) ([(b61, .cells (iV (Qp W) ++ []).toArray 3 (0, 0))] :: Co :: [(b1, .cells v.toArray 41 (0, 0))] :: C :: F) _ _
    refine qO <| qP <| qB rfl <| q9 (wL rfl rfl) <| qF <| qL rfl (fun hc14 => ?_) (fun hc14 => ?_)
    ·
     refine qZ <| qI <| qO <| qg <| qO ?_
     obtain ⟨x, hx⟩ : ∃ x, (Qp W)[j]? = some x := ⟨_, List.getElem?_eq_getElem (show j < 3 by omega)⟩
     have hst : nz ((Qp W).take (j + 1)) = nz ((Qp W).take j) ++ (if x ≠ 0 then [x] else []) := by rw [List.take_add_one, hx]; exact XL _ _
     have hol : os.length ≤ 901099 := by rw [hos, List.length_append, List.length_append, List.length_append]; have := YE W 1064 (by omega); have := XN W 32 (by omega); have := XM ((Qp W).take j); have h3 : ((Qp W).take j).length ≤ 3 := (by rw [List.length_take]; omega); omega
     refine qK <| qB rfl <| qB rfl <| q9 (qw (j := j) (off := j * 1) rfl rfl rfl (by omega) (by simp)) ?_
     refine q9 (qH rfl (jW hx)) <| q9 (wz rfl rfl) <| qF <| qL rfl (fun hc16 => ?_) (fun hc16 => ?_)
     ·
      refine qK <| qB rfl <| qB rfl <| qB rfl <| q9 (qw (j := j) (off := j * 1) rfl rfl rfl (by omega) (by simp)) ?_
      refine q9 (qH rfl (jW hx)) <| qG (wK rfl rfl rfl) ?_
      rintro t76 _ ⟨b76, rfl, rfl⟩
      refine qG (wg (m := 1) (sz := 1) rfl rfl hsl (wi (ys := iV [x]) inferInstance rfl rfl) rfl Tryz.underlying39 rfl rfl (by omega)) ?_
      rintro t77 _ ⟨C', hs', rfl⟩
      refine qD rfl <| qT <| qf <| qI <| qK <| qB rfl <| q9 (w9 rfl rfl (by omega)) <| qD rfl <| qT <| w5 ⟨(j + 1, t77, C', os ++ [x]), ?_⟩ ?_ ?_
      · (try dsimp only); exact ⟨by omega, by rw [List.length_append]; simpa [iV] using hs', by rw [hst, if_pos hc16, hos]; simp only [List.append_assoc]⟩
      · (try dsimp only); omega
      · (try dsimp only); exact qX _
     ·
      refine qZ <| qf <| qI <| qK <| qB rfl <| q9 (w9 rfl rfl (by omega)) <| qD rfl <| qT <| w5 ⟨(j + 1, uo, Co, os), ?_⟩ ?_ ?_
      · (try dsimp only); exact ⟨by omega, hsl, by rw [hst, if_neg hc16, hos, List.append_nil]⟩
      · (try dsimp only); omega
      · (try dsimp only); exact qX _
    ·
     refine wb <| qr <| qt <| qj <| qI <| qO ?_
     obtain rfl : j = 3 := by omega
     have hos2 : os = ME W := by rw [hos]; rfl
     have hol : os.length ≤ 901099 := by rw [hos, List.length_append, List.length_append, List.length_append]; have := YE W 1064 (by omega); have := XN W 32 (by omega); have := XM ((Qp W).take 3); have h3 : ((Qp W).take 3).length ≤ 3 := (by rw [List.length_take]; omega); omega
     refine qK <| qB rfl <| qG (qx rfl (wc (Co) (ZT uo Co os hsl (by omega)))) ?_
     rintro t79 _ ⟨C', hs', rfl⟩
     refine qD rfl <| qF <| qz <| wF (C' :: C :: F) (.inl rfl) rfl (qu rfl) ?_
     rw [hos2] at hs'
     exact ⟨C', hs', rfl⟩
theorem part_rng {k : Int × Int} (h : wC k) : 1 ≤ k.1 ∧ k.1 ≤ 5 ∧ 0 ≤ k.2 ∧ (k.1 = 1 → k.2 < 1064) ∧ (k.1 = 5 → k.2 < 32) ∧ (1 < k.1 → k.1 < 5 → k.2 = 0) := by
  rcases h with ⟨h, h1, h2⟩ | rfl | rfl | rfl | ⟨h, h1, h2⟩
  · omega
  · decide
  · decide
  · decide
  · omega
theorem x5 (W : RS) : (zh W).length ≤ 1100 := by
  have h1 := xU W 1064 (by omega)
  have h2 := WJ W 32 (by omega)
  have h3 : (sgP W).length ≤ 1 := by unfold sgP; split <;> simp
  have h4 : (dbP W).length ≤ 1 := by unfold dbP; split <;> simp
  have h5 : (Yq W).length ≤ 1 := by unfold Yq; split <;> simp
  unfold zh; simp only [List.length_append]; omega
def xf (W : RS) (k : Int × Int) (a : Int) : Prop := a ≠ 0 ∧ qy W k = a ∧ k ∉ zh W
instance (W : RS) (k : Int × Int) (a : Int) : Decidable (xf W k a) := by unfold xf; infer_instance
theorem rlive_ok (W : RS) (v : List Value) (C : qV) (hw : RefC ba bl W v C) (k : Int × Int) (hk : wC k) (a : Int) :
    FnT Tryz.prog w0 33 #[.agg v.toArray, .agg (Qg W.num W.ver k).toArray, .int .i64 a] (C :: F) (fun v L' => v = .bool (decide (xf W k a)) ∧ L' = C :: F) := by
  obtain ⟨pg, cg, Cg, hv, hs, hC⟩ := hw.at
  have hvlen := hw.len
  have hkr := part_rng hk
  obtain ⟨l, hl⟩ : ∃ l, zh W = l := ⟨_, rfl⟩
  have hll : l.length ≤ 1100 := hl ▸ x5 W
  unfold Qg
  refine qh (E0 := [(0, _), (1, _), (2, _)]) (N := 98) Tryz.func33 rfl rfl rfl rfl ?_
  refine qP <| qG (wq rfl) ?_
  rintro t3 _ ⟨b3, rfl, rfl⟩
  refine qG (wq rfl) ?_
  rintro t4 _ ⟨b4, rfl, rfl⟩
  refine qD rfl <| qF <| qO <| qP <| qB rfl <| q9 (wl rfl rfl) <| qB rfl <| qY (s := 12) rfl (fun hg1_2 => ?_) (fun hg1_2 => ?_)
  ·
   refine qN rfl rfl rfl <| qN rfl rfl rfl <| qN rfl rfl rfl <| qN rfl rfl rfl <| qN rfl rfl rfl <| q9 (qk rfl rfl) <| qB rfl <| qN rfl rfl rfl <| qN rfl rfl rfl <| qN rfl rfl rfl <| qN rfl rfl rfl <| qN rfl rfl rfl <| q9 (qk rfl rfl) <| qB rfl <| qN rfl rfl rfl <| qN rfl rfl rfl <| qN rfl rfl rfl <| q9 (qk rfl rfl) <| qB rfl <| qN rfl rfl rfl <| qN rfl rfl rfl <| qN rfl rfl rfl <| q9 (qk rfl rfl) <| qB rfl <| qN rfl rfl rfl <| qN rfl rfl rfl <| qN rfl rfl rfl <| q9 (qk rfl rfl) <| qF <| zL rfl <| qP <| qD rfl <| qF <| qz <| w7 <| wF (C :: F) (.inl rfl) rfl (qu rfl) ?_
   exact ⟨congrArg Value.bool (decide_eq_false (fun h : xf W k a => h.1 hg1_2)).symm, rfl⟩
  ·
   refine qE rfl rfl (qA rfl) <| qE rfl rfl (qH rfl rfl) <| qE rfl rfl (qA rfl) <| qE rfl rfl (qH rfl (show wX v 0 = some (.int .u32 W.num) by rw [hv]; rfl)) <| qE rfl rfl (wz rfl rfl) <| q9 (qU rfl rfl) <| qB rfl <| qY (s := 19) rfl (fun hg1_9 => ?_) (fun hg1_9 => ?_)
   · exact absurd rfl hg1_9
   ·
    refine qE rfl rfl (qA rfl) <| qE rfl rfl (qH rfl rfl) <| qE rfl rfl (qA rfl) <| qE rfl rfl (qH rfl (show wX v 1 = some (.int .u32 W.ver) by rw [hv]; rfl)) <| qE rfl rfl (wz rfl rfl) <| q9 (qU rfl rfl) <| qB rfl <| qY (s := 26) rfl (fun hg1_16 => ?_) (fun hg1_16 => ?_)
    · exact absurd rfl hg1_16
    ·
     refine qE rfl rfl (qA rfl) <| qE rfl rfl (qH rfl rfl) <| qE rfl rfl (wL rfl rfl) <| q9 (qU rfl rfl) <| qB rfl <| qY (s := 31) rfl (fun hg1_21 => ?_) (fun hg1_21 => ?_)
     · (exfalso; omega)
     ·
      refine qE rfl rfl (qA rfl) <| qE rfl rfl (qH rfl rfl) <| qE rfl rfl (y9 rfl rfl) <| q9 (qU rfl rfl) <| qB rfl <| qY (s := 36) rfl (fun hg1_26 => ?_) (fun hg1_26 => ?_)
      · (exfalso; omega)
      ·
       refine qE rfl rfl (qA rfl) <| qE rfl rfl (qH rfl rfl) <| qE rfl rfl (wL rfl rfl) <| q9 (qU rfl rfl) <| qF <| qL rfl (fun hc1 => ?_) (fun hc1 => ?_)
       · (exfalso; omega)
       ·
        refine qZ <| qI <| zb (Γ := {pΓ : (Nat) // (fun (z : Nat) => a ≠ 0) pΓ}) (fun g => (fun (z : Nat) => [(2, .int .i64 a), (3, .pointer (some ⟨b3, 0, none⟩)), (4, .pointer (some ⟨b4, 0, none⟩))]) g.1) (fun g => (fun (z : Nat) => [(b3, .cells v.toArray 41 (0, 0))] :: [(b4, .cells [.int .i64 k.1, .int .u32 W.num, .int .u32 W.ver, .int .i64 k.2].toArray 80 (0, 0))] :: C :: F) g.1) ?_ ?_
        ·
         refine qP <| q9 (qA rfl) <| q9 (qH rfl rfl) <| q9 (wl rfl rfl) <| qB rfl <| qY (s := 44) rfl (fun hg3_3 => ?_) (fun hg3_3 => ?_)
         ·
          refine qE rfl rfl (qA rfl) <| qE rfl rfl (qH rfl rfl) <| qE rfl rfl (j2 rfl rfl) <| q9 (qk rfl rfl) <| qB rfl <| qY (s := 49) rfl (fun hg3_8 => ?_) (fun hg3_8 => ?_)
          · (exfalso; omega)
          ·
           refine qE rfl rfl (qA rfl) <| qE rfl rfl (qH rfl rfl) <| qE rfl rfl (wl rfl rfl) <| qE rfl rfl (qM rfl) <| qY (s := 53) rfl (fun hg3_12 => ?_) (fun hg3_12 => ?_)
           ·
            refine qE rfl rfl (qA rfl) <| qE rfl rfl (qH rfl rfl) <| qE rfl rfl (j2 rfl rfl) <| qE rfl rfl (qk rfl rfl) <| q9 (qU rfl rfl) <| qB rfl <| qY (s := 59) rfl (fun hg3_18 => ?_) (fun hg3_18 => ?_)
            · (exfalso; omega)
            ·
             refine qE rfl rfl (qA rfl) <| qE rfl rfl (qH rfl rfl) <| qE rfl rfl (y9 rfl rfl) <| qE rfl rfl (qM rfl) <| qY (s := 63) rfl (fun hg3_22 => ?_) (fun hg3_22 => ?_)
             ·
              refine qE rfl rfl (qA rfl) <| qE rfl rfl (qH rfl rfl) <| qE rfl rfl (wL rfl rfl) <| qE rfl rfl (qk rfl rfl) <| qE rfl rfl (qM rfl) <| qY (s := 68) rfl (fun hg3_27 => ?_) (fun hg3_27 => ?_)
              ·
               refine qE rfl rfl (qA rfl) <| qE rfl rfl (qH rfl rfl) <| qE rfl rfl (wz rfl rfl) <| qE rfl rfl (qk rfl rfl) <| q9 (qU rfl rfl) <| qF <| qL rfl (fun hc3 => ?_) (fun hc3 => ?_)
               · (exfalso; omega)
               ·
                refine qZ <| qW ⟨0, ?_⟩ ?_
                · (try dsimp only); assumption
                · (try dsimp only); exact qX _
              ·
               refine qN rfl rfl rfl <| qN rfl rfl rfl <| qN rfl rfl rfl <| qE rfl rfl (qU rfl rfl) <| q9 (qU rfl rfl) <| qF <| wU rfl <| qZ <| qW ⟨0, ?_⟩ ?_
               · (try dsimp only); assumption
               · (try dsimp only); exact qX _
             ·
              refine qN rfl rfl rfl <| qN rfl rfl rfl <| qN rfl rfl rfl <| qE rfl rfl (qU rfl rfl) <| qE rfl rfl (qM rfl) <| qN rfl rfl rfl <| qN rfl rfl rfl <| qN rfl rfl rfl <| qE rfl rfl (qU rfl rfl) <| q9 (qU rfl rfl) <| qF <| wU rfl <| qZ <| qW ⟨0, ?_⟩ ?_
              · (try dsimp only); assumption
              · (try dsimp only); exact qX _
           ·
            refine qN rfl rfl rfl <| qN rfl rfl rfl <| qN rfl rfl rfl <| qE rfl rfl (qU rfl rfl) <| q9 (qU rfl rfl) <| qB rfl <| qE rfl rfl (qA rfl) <| qE rfl rfl (qH rfl rfl) <| qE rfl rfl (y9 rfl rfl) <| qE rfl rfl (qM rfl) <| qY (s := 63) rfl (fun hg3_22 => ?_) (fun hg3_22 => ?_)
            ·
             refine qE rfl rfl (qA rfl) <| qE rfl rfl (qH rfl rfl) <| qE rfl rfl (wL rfl rfl) <| qE rfl rfl (qk rfl rfl) <| qE rfl rfl (qM rfl) <| qY (s := 68) rfl (fun hg3_27 => ?_) (fun hg3_27 => ?_)
             ·
              refine qE rfl rfl (qA rfl) <| qE rfl rfl (qH rfl rfl) <| qE rfl rfl (wz rfl rfl) <| qE rfl rfl (qk rfl rfl) <| q9 (qU rfl rfl) <| qF <| qL rfl (fun hc3 => ?_) (fun hc3 => ?_)
              · (exfalso; omega)
              ·
               refine qZ <| qW ⟨0, ?_⟩ ?_
               · (try dsimp only); assumption
               · (try dsimp only); exact qX _
             ·
              refine qN rfl rfl rfl <| qN rfl rfl rfl <| qN rfl rfl rfl <| qE rfl rfl (qU rfl rfl) <| q9 (qU rfl rfl) <| qF <| wU rfl <| qZ <| qW ⟨0, ?_⟩ ?_
              · (try dsimp only); assumption
              · (try dsimp only); exact qX _
            ·
             refine qN rfl rfl rfl <| qN rfl rfl rfl <| qN rfl rfl rfl <| qE rfl rfl (qU rfl rfl) <| qE rfl rfl (qM rfl) <| qN rfl rfl rfl <| qN rfl rfl rfl <| qN rfl rfl rfl <| qE rfl rfl (qU rfl rfl) <| q9 (qU rfl rfl) <| qF <| wU rfl <| qZ <| qW ⟨0, ?_⟩ ?_
             · (try dsimp only); assumption
             · (try dsimp only); exact qX _
         ·
          refine qN rfl rfl rfl <| qN rfl rfl rfl <| qN rfl rfl rfl <| q9 (qU rfl rfl) <| qB rfl <| qE rfl rfl (qA rfl) <| qE rfl rfl (qH rfl rfl) <| qE rfl rfl (wl rfl rfl) <| qE rfl rfl (qM rfl) <| qY (s := 53) rfl (fun hg3_12 => ?_) (fun hg3_12 => ?_)
          ·
           refine qE rfl rfl (qA rfl) <| qE rfl rfl (qH rfl rfl) <| qE rfl rfl (j2 rfl rfl) <| qE rfl rfl (qk rfl rfl) <| q9 (qU rfl rfl) <| qB rfl <| qY (s := 59) rfl (fun hg3_18 => ?_) (fun hg3_18 => ?_)
           · (exfalso; omega)
           ·
            refine qE rfl rfl (qA rfl) <| qE rfl rfl (qH rfl rfl) <| qE rfl rfl (y9 rfl rfl) <| qE rfl rfl (qM rfl) <| qY (s := 63) rfl (fun hg3_22 => ?_) (fun hg3_22 => ?_)
            ·
             refine qE rfl rfl (qA rfl) <| qE rfl rfl (qH rfl rfl) <| qE rfl rfl (wL rfl rfl) <| qE rfl rfl (qk rfl rfl) <| qE rfl rfl (qM rfl) <| qY (s := 68) rfl (fun hg3_27 => ?_) (fun hg3_27 => ?_)
             ·
              refine qE rfl rfl (qA rfl) <| qE rfl rfl (qH rfl rfl) <| qE rfl rfl (wz rfl rfl) <| qE rfl rfl (qk rfl rfl) <| q9 (qU rfl rfl) <| qF <| qL rfl (fun hc3 => ?_) (fun hc3 => ?_)
              · (exfalso; omega)
              ·
               refine qZ <| qW ⟨0, ?_⟩ ?_
               · (try dsimp only); assumption
               · (try dsimp only); exact qX _
             ·
              refine qN rfl rfl rfl <| qN rfl rfl rfl <| qN rfl rfl rfl <| qE rfl rfl (qU rfl rfl) <| q9 (qU rfl rfl) <| qF <| wU rfl <| qZ <| qW ⟨0, ?_⟩ ?_
              · (try dsimp only); assumption
              · (try dsimp only); exact qX _
            ·
             refine qN rfl rfl rfl <| qN rfl rfl rfl <| qN rfl rfl rfl <| qE rfl rfl (qU rfl rfl) <| qE rfl rfl (qM rfl) <| qN rfl rfl rfl <| qN rfl rfl rfl <| qN rfl rfl rfl <| qE rfl rfl (qU rfl rfl) <| q9 (qU rfl rfl) <| qF <| wU rfl <| qZ <| qW ⟨0, ?_⟩ ?_
             · (try dsimp only); assumption
             · (try dsimp only); exact qX _
          ·
           refine qN rfl rfl rfl <| qN rfl rfl rfl <| qN rfl rfl rfl <| qE rfl rfl (qU rfl rfl) <| q9 (qU rfl rfl) <| qB rfl <| qE rfl rfl (qA rfl) <| qE rfl rfl (qH rfl rfl) <| qE rfl rfl (y9 rfl rfl) <| qE rfl rfl (qM rfl) <| qY (s := 63) rfl (fun hg3_22 => ?_) (fun hg3_22 => ?_)
           ·
            refine qE rfl rfl (qA rfl) <| qE rfl rfl (qH rfl rfl) <| qE rfl rfl (wL rfl rfl) <| qE rfl rfl (qk rfl rfl) <| qE rfl rfl (qM rfl) <| qY (s := 68) rfl (fun hg3_27 => ?_) (fun hg3_27 => ?_)
            ·
             refine qE rfl rfl (qA rfl) <| qE rfl rfl (qH rfl rfl) <| qE rfl rfl (wz rfl rfl) <| qE rfl rfl (qk rfl rfl) <| q9 (qU rfl rfl) <| qF <| qL rfl (fun hc3 => ?_) (fun hc3 => ?_)
             · (exfalso; omega)
             ·
              refine qZ <| qW ⟨0, ?_⟩ ?_
              · (try dsimp only); assumption
              · (try dsimp only); exact qX _
            ·
             refine qN rfl rfl rfl <| qN rfl rfl rfl <| qN rfl rfl rfl <| qE rfl rfl (qU rfl rfl) <| q9 (qU rfl rfl) <| qF <| wU rfl <| qZ <| qW ⟨0, ?_⟩ ?_
             · (try dsimp only); assumption
             · (try dsimp only); exact qX _
           ·
            refine qN rfl rfl rfl <| qN rfl rfl rfl <| qN rfl rfl rfl <| qE rfl rfl (qU rfl rfl) <| qE rfl rfl (qM rfl) <| qN rfl rfl rfl <| qN rfl rfl rfl <| qN rfl rfl rfl <| qE rfl rfl (qU rfl rfl) <| q9 (qU rfl rfl) <| qF <| wU rfl <| qZ <| qW ⟨0, ?_⟩ ?_
            · (try dsimp only); assumption
            · (try dsimp only); exact qX _
        rintro ⟨z, hcut⟩
        replace hcut : a ≠ 0 := hcut
        have ha := hcut
        show Tr _ _ _ ([(2, .int .i64 a), (3, .pointer (some ⟨b3, 0, none⟩)), (4, .pointer (some ⟨b4, 0, none⟩))]) ([(b3, .cells v.toArray 41 (0, 0))] :: [(b4, .cells [.int .i64 k.1, .int .u32 W.num, .int .u32 W.ver, .int .i64 k.2].toArray 80 (0, 0))] :: C :: F) _ _
        refine qP <| q9 (qA rfl) <| q9 (qH rfl rfl) <| q9 (qA rfl) <| q9 (qH rfl rfl) <| q9 (wa rfl) <| qG (qn) ?_
        rintro t7 _ ⟨b7, rfl, rfl⟩
        refine qS (wj rfl rfl rfl rfl) <| qo <| q9 (wS rfl hvlen) <| qG (qx rfl (wc (C) (xb W v C hw))) ?_
        rintro t80 _ ⟨Cp, hsp, rfl⟩
        refine qD rfl <| qT ?_
        rw [hl] at hsp
        obtain ⟨pp, cp, hvp⟩ := hsp.slice
        refine qI <| qO <| qP <| qD rfl <| qF <| qg <| wV (Γ := {pΓ : (Nat) // (fun (i : Nat) => i ≤ l.length ∧ k ∉ l.take i) pΓ}) (fun g => (fun (i : Nat) => [(2, .int .i64 a), (3, .pointer (some ⟨b3, 0, none⟩)), (7, .pointer (some ⟨b7, 0, none⟩)), (8, t80), (9, .int .i64 i)]) g.1) (fun g => (fun (i : Nat) => Cp :: [(b7, .cells [.int .i64 k.1, .int .i64 k.2].toArray 65 (0, 0))] :: [(b3, .cells v.toArray 41 (0, 0))] :: C :: F) g.1) (fun g => (fun (i : Nat) => l.length - i) g.1) ⟨0, by dsimp only; exact ⟨by omega, by simp⟩⟩ (qX _) ?_
        rintro ⟨i, hloop⟩
        replace hloop : i ≤ l.length ∧ k ∉ l.take i := hloop
        obtain ⟨hi, hn⟩ := hloop
        show Tr _ _ _ ([(2, .int .i64 a), (3, .pointer (some ⟨b3, 0, none⟩)), (7, .pointer (some ⟨b7, 0, none⟩)), (8, t80), (9, .int .i64 i)]) (Cp :: [(b7, .cells [.int .i64 k.1, .int .i64 k.2].toArray 65 (0, 0))] :: [(b3, .cells v.toArray 41 (0, 0))] :: C :: F) _ _
        refine qO <| qP <| qB rfl <| qB rfl <| q9 (wD (by rw [hvp]; rfl)) ?_
        refine q9 (wL rfl rfl) <| qF <| qL rfl (fun hc8 => ?_) (fun hc8 => ?_)
        ·
         refine qZ <| qI <| qO <| qg <| qO ?_
         obtain ⟨q, hq⟩ : ∃ q, l[i]? = some q := ⟨_, List.getElem?_eq_getElem (by omega)⟩
         rcases hsp with ⟨-, h0, -⟩ | ⟨bp, cap, spare, rfl, hcs, rfl, hcap, hnc⟩
         · omega
         refine wQ w8 <| wE [(87, .pure _), (88, .pure _), (89, .pure _), (90, .pure _), (91, .pure _)] (by kernel_rfl) rfl rfl rfl wd (qC rfl (fun X => qM rfl) <| qC rfl (fun X => qM rfl) <| qC rfl (fun X => qw (j := i) (off := i * 2) rfl rfl rfl (by omega) (by simp)) <| qC rfl (fun X => zC (j := i) y4 rfl hq rfl) <| qC rfl (fun X => wZ rfl) <| ParH.nil rfl) ?_
         dsimp only [zQ, List.drop, List.length]
         refine qm (by kernel_rfl) (Z6 rfl rfl) ?_
         refine wI <| qI <| qL rfl (fun hc10 => ?_) (fun hc10 => ?_)
         ·
          refine qP <| qD rfl <| qF <| qz <| wN <| w7 <| kc <| wN <| w7 <| wF (C :: F) (.inl rfl) rfl (qu rfl) ?_
          exact ⟨congrArg Value.bool (decide_eq_false (fun h : xf W k a => h.2.2 (by rw [hl, ← XG.1 hc10]; exact List.mem_of_getElem? hq))).symm, rfl⟩
         ·
          refine qZ <| qf <| qI <| qK <| qB rfl <| q9 (w9 rfl rfl (by omega)) <| qD rfl <| qT <| w5 ⟨i + 1, ?_⟩ ?_ ?_
          ·
           try dsimp only
           refine ⟨by omega, ?_⟩
           rw [List.take_add_one, hq, List.mem_append]
           rintro (h | h)
           · exact hn h
           · have e : k = q := by simpa using h
             exact hc10 (by rw [e])
          · (try dsimp only); omega
          · (try dsimp only); exact qX _
        ·
         refine wb <| qr <| qt <| qj <| qI <| qO ?_
         rw [List.take_of_length_le (by omega)] at hn
         refine qK <| q9 (wS rfl hvlen) <| q9 (wZ rfl) <| q9 (wJ rfl (zS (C) (YR W v C hw k hk))) <| qB rfl <| q9 (wl rfl rfl) <| qD rfl <| qF <| qz <| wF (C :: F) (.inl rfl) rfl (qu rfl) ?_
         exact ⟨congrArg Value.bool (decide_eq_decide.2 ⟨fun h => ⟨ha, h, by rw [hl]; exact hn⟩, fun h => h.2.1⟩), rfl⟩
def zO : List (Int × Int) → List Int → RS × List Int → RS × List Int
  | k :: l, a :: bs, s => zO l bs (kW s.1 k a, if qy s.1 k ≠ 0 then s.2 ++ [qy s.1 k] else s.2)
  | _, _, s => s
theorem jg (bs : List Int) (s : RS × List Int) : zO [] bs s = s := by cases bs <;> rfl
theorem commitFR_step {l : List (Int × Int)} {bs : List Int} {i : Nat} {k : Int × Int} {a : Int} (hk : l[i]? = some k) (ha : bs[i]? = some a) (s : RS × List Int) :
    zO (l.drop i) (bs.drop i) s = zO (l.drop (i + 1)) (bs.drop (i + 1)) (kW s.1 k a, if qy s.1 k ≠ 0 then s.2 ++ [qy s.1 k] else s.2) := by
  rw [kR hk, kR ha, zO]
def yu (W : RS) (bs : List Int) : RS := (zO (zh W) bs (W, W.gone)).1
def xh (W : RS) (bs : List Int) : List Int := (zO (zh W) bs (W, W.gone)).2
def lvT (W : RS) (k : Nat) : Int → yG := fun j => if 0 ≤ j ∧ j < k then ⟨(W.leaves j).at_, false⟩ else W.leaves j
theorem lvT_step (W : RS) (k : Nat) : upd (lvT W k) (k : Int) ⟨(W.leaves k).at_, false⟩ = lvT W (k + 1) := by
  funext j; unfold upd lvT
  by_cases e : j = k
  · subst e; rw [if_pos rfl, if_pos (by omega)]
  · rw [if_neg e]
    by_cases h : 0 ≤ j ∧ j < k
    · rw [if_pos h, if_pos (by omega)]
    · rw [if_neg h, if_neg (by omega)]
theorem lvT_at (W : RS) (k : Nat) : lvT W k k = W.leaves k := by unfold lvT; rw [if_neg (by omega)]
def Zd (W : RS) : RS := { W with gone := [], sg := ⟨W.sg.at_, false⟩, db := ⟨W.db.at_, false⟩, self := ⟨W.self.at_, false⟩, leaves := lvT W 32 }
def zE (W : RS) (bs : List Int) : RS := Zd (yu W bs)
theorem ZX {W : RS} {k : Int × Int} (h : k ∈ zh W) : wC k := by
  unfold zh at h
  simp only [List.mem_append] at h
  have hn : ∀ (n i : Nat) (j : Int), j ∈ (zo n).take i → 0 ≤ j ∧ j < n := fun n i j hj => by
    have := List.mem_of_mem_take hj
    unfold zo at this
    obtain ⟨a, ha, rfl⟩ := List.mem_map.1 this
    have := List.mem_range.1 ha
    omega
  rcases h with (((h | h) | h) | h) | h
  · unfold yR at h
    obtain ⟨j, hj, rfl⟩ := List.mem_map.1 h
    have := hn _ _ _ (List.mem_filter.1 hj).1
    exact .inl ⟨rfl, this.1, this.2⟩
  · unfold ky at h
    obtain ⟨j, hj, rfl⟩ := List.mem_map.1 h
    have := hn _ _ _ (List.mem_filter.1 hj).1
    exact .inr (.inr (.inr (.inr ⟨rfl, this.1, this.2⟩)))
  · unfold sgP at h; split at h
    · obtain rfl : k = (3, 0) := by simpa using h
      exact .inr (.inr (.inl rfl))
    · cases h
  · unfold dbP at h; split at h
    · obtain rfl : k = (4, 0) := by simpa using h
      exact .inr (.inr (.inr (.inl rfl)))
    · cases h
  · unfold Yq at h; split at h
    · obtain rfl : k = (2, 0) := by simpa using h
      exact .inr (.inl rfl)
    · cases h
theorem rcommit_ok (W : RS) (v : List Value) (C Cb : qV) (hw : RefC ba bl W v C) (ua : Value) (bs : List Int) (hat : SlC 3 1 ua bs.length (iV bs) Cb) (hlen : (zh W).length = bs.length)
    (hr : ∀ a ∈ bs, 1 ≤ a ∧ a ≤ 65535) (hok : ROk (yu W bs)) (hgl : W.gone.length ≤ 800000) :
    FnT Tryz.prog w0 45 #[.agg v.toArray, ua] (C :: Cb :: F) (fun v L' => ∃ l up us ud C' Cp Cs Cd, v = .tuple #[.agg l.toArray, up, us, ud, .int .i64 0] ∧ RefC ba bl (zE W bs) l C' ∧
      SlC 65 2 up (zh W).length ((zh W).flatMap zP) Cp ∧ SlC 54 128 us (zh W).length ((zh W).flatMap (fun k => ww (zB (yu W bs) k))) Cs ∧
      SlC 3 1 ud (srt (xh W bs)).length (iV (srt (xh W bs))) Cd ∧ L' = C' :: Cp :: Cs :: Cd :: Cb :: F) := by
  have hvlen := hw.len
  obtain ⟨pu, cu, hu⟩ := hat.slice
  obtain ⟨l, hl⟩ : ∃ l, zh W = l := ⟨_, rfl⟩
  have hlp : ∀ k ∈ l, wC k := fun k hk => ZX (hl ▸ hk)
  have hll : l.length ≤ 1100 := hl ▸ x5 W
  obtain ⟨m, hm⟩ : ∃ m, yu W bs = m := ⟨_, rfl⟩
  obtain ⟨C0, Cg, pg, cg, h0, rfl, hv, hs⟩ := hw.split
  rw [hl] at hlen
  simp only [hl, hm]
  rw [hm] at hok
  refine qh (E0 := [(0, _), (1, _)]) (N := 114) Tryz.func45 rfl rfl rfl rfl ?_
  refine qP <| qG (wq rfl) ?_
  rintro t2 _ ⟨b2, rfl, rfl⟩
  refine qG (qn) ?_
  rintro t4 _ ⟨b4, rfl, rfl⟩
  refine qD rfl <| qD rfl <| qD rfl <| qD rfl <| qo <| q9 (wS rfl hvlen) <| qG (qx rfl (wc (C0 ++ Cg) (xb W v _ hw))) ?_
  rintro t19 _ ⟨Cp, hsp, rfl⟩
  refine qD rfl <| qT ?_
  rw [hl] at hsp
  obtain ⟨pp, cp, hvp⟩ := hsp.slice
  refine qI <| qP <| qB rfl <| q9 (wD (by rw [hvp]; rfl)) ?_
  refine qB rfl <| q9 (wD (by rw [hu]; rfl)) ?_
  refine q9 (wz rfl rfl) <| qD rfl <| qT ?_
  rw [decide_eq_false (show ¬ ((l.length : Int) ≠ bs.length) by omega)]
  refine qI <| qO <| qP <| qD rfl <| qF <| qg <| wV (Γ := {pΓ : (Nat) × (Bool) // (fun (i : Nat) (bd : Bool) => i ≤ bs.length ∧ bd = false) pΓ.1 pΓ.2}) (fun g => (fun (i : Nat) (bd : Bool) => [(1, ua), (2, .pointer (some ⟨b2, 0, none⟩)), (4, .pointer (some ⟨b4, 0, none⟩)), (9, t19), (10, .bool bd), (11, .int .i64 i)]) g.1.1 g.1.2) (fun g => (fun (i : Nat) (bd : Bool) => Cp :: [(b2, .cells v.toArray 41 (0, 0))] :: [(b4, .cells node0V.toArray 41 (0, 0))] :: (C0 ++ Cg) :: Cb :: F) g.1.1 g.1.2) (fun g => (fun (i : Nat) (bd : Bool) => bs.length - i) g.1.1 g.1.2) ⟨(0, false), by dsimp only; exact ⟨by omega, rfl⟩⟩ (qX _) ?_
  rintro ⟨⟨i, bd⟩, hloop⟩
  replace hloop : i ≤ bs.length ∧ bd = false := hloop
  obtain ⟨hi, hbd⟩ := hloop
  show Tr _ _ _ ([(1, ua), (2, .pointer (some ⟨b2, 0, none⟩)), (4, .pointer (some ⟨b4, 0, none⟩)), (9, t19), (10, .bool bd), (11, .int .i64 i)]) (Cp :: [(b2, .cells v.toArray 41 (0, 0))] :: [(b4, .cells node0V.toArray 41 (0, 0))] :: (C0 ++ Cg) :: Cb :: F) _ _
  refine qO <| qP <| qB rfl <| qB rfl <| q9 (wD (by rw [hu]; rfl)) ?_
  refine q9 (wL rfl rfl) <| qF <| qL rfl (fun hc4 => ?_) (fun hc4 => ?_)
  ·
   refine qZ <| qI <| qO <| qg ?_
   obtain ⟨a, ha⟩ : ∃ a, bs[i]? = some a := ⟨_, List.getElem?_eq_getElem (by omega)⟩
   have har := hr a (List.mem_of_getElem? ha)
   rcases hat with ⟨-, h0, -⟩ | ⟨bA, capA, spA, rfl, hcsA, rfl, hcapA, hncA⟩
   · omega
   refine qK <| qB rfl <| qB rfl <| y0 (s := 32) rfl (fun hg6_1 => ?_) (fun hg6_1 => ?_)
   · (rw [hbd] at hg6_1; cases hg6_1)
   ·
    refine qE rfl rfl (qM rfl) <| qE rfl rfl (qM rfl) <| qE rfl rfl (qw (j := i) (off := i * 1) rfl rfl rfl (by omega) (by simp)) ?_
    refine qE rfl rfl (qH rfl (jW ha)) <| qE rfl rfl (wL rfl rfl) <| q9 (qU rfl rfl) <| qB rfl <| qY (s := 39) rfl (fun hg6_8 => ?_) (fun hg6_8 => ?_)
    · (exfalso; omega)
    ·
     refine qE rfl rfl (qM rfl) <| qE rfl rfl (qM rfl) <| qE rfl rfl (qw (j := i) (off := i * 1) rfl rfl rfl (by omega) (by simp)) ?_
     refine qE rfl rfl (qH rfl (jW ha)) <| qE rfl rfl (y9 rfl rfl) <| q9 (qU rfl rfl) <| qD rfl <| qT <| qf <| qI <| qK <| qB rfl <| q9 (w9 rfl rfl (by omega)) <| qD rfl <| qT <| w5 ⟨(i + 1, _), ?_⟩ ?_ ?_
     · (try dsimp only); exact ⟨by omega, decide_eq_false (by omega)⟩
     · (try dsimp only); omega
     · (try dsimp only); exact qX _
  ·
   refine wb <| qr <| qt <| qj <| qI <| qO <| qP <| qB rfl <| qF <| y3 rfl (fun hc7 => ?_) (fun hc7 => ?_)
   · (rw [hbd] at hc7; cases hc7)
   ·
    refine qZ <| qI <| qO <| yx (L' := Cg :: [(b2, .cells v.toArray 41 (0, 0))] :: [(b4, .cells node0V.toArray 41 (0, 0))] :: C0 :: Cp :: Cb :: F) (yV (by intro f; simp only [List.flatten_cons, List.flatten_nil, List.append_nil, List.countP_append, List.countP_cons, List.countP_nil]; omega)) ?_
    refine qK <| q9 (qA rfl) <| q9 (qH rfl (show wX v 13 = some (.slice pg W.gone.length cg) by rw [hv]; rfl)) <| qD rfl <| qF <| qO <| qP <| qD rfl <| qF <| qg <| wV (Γ := {pΓ : (Nat) × (RS) × (List Value) × (qV) × (List Int) × (Value) × (qV) // (fun (i : Nat) (X : RS) (vX : List Value) (CX : qV) (ds : List Int) (ud : Value) (Cd : qV) => i ≤ l.length ∧ RefC0 ba bl X vX CX ∧ SlC 3 1 ud ds.length (iV ds) Cd ∧ ds.length ≤ 800000 + i ∧ zO (l.drop i) (bs.drop i) (X, ds) = zO l bs (W, W.gone)) pΓ.1 pΓ.2.1 pΓ.2.2.1 pΓ.2.2.2.1 pΓ.2.2.2.2.1 pΓ.2.2.2.2.2.1 pΓ.2.2.2.2.2.2}) (fun g => (fun (i : Nat) (X : RS) (vX : List Value) (CX : qV) (ds : List Int) (ud : Value) (Cd : qV) => [(1, ua), (2, .pointer (some ⟨b2, 0, none⟩)), (4, .pointer (some ⟨b4, 0, none⟩)), (9, t19), (12, ud), (13, .int .i64 i)]) g.1.1 g.1.2.1 g.1.2.2.1 g.1.2.2.2.1 g.1.2.2.2.2.1 g.1.2.2.2.2.2.1 g.1.2.2.2.2.2.2) (fun g => (fun (i : Nat) (X : RS) (vX : List Value) (CX : qV) (ds : List Int) (ud : Value) (Cd : qV) => Cd :: [(b2, .cells vX.toArray 41 (0, 0))] :: [(b4, .cells node0V.toArray 41 (0, 0))] :: CX :: Cp :: Cb :: F) g.1.1 g.1.2.1 g.1.2.2.1 g.1.2.2.2.1 g.1.2.2.2.2.1 g.1.2.2.2.2.2.1 g.1.2.2.2.2.2.2) (fun g => (fun (i : Nat) (X : RS) (vX : List Value) (CX : qV) (ds : List Int) (ud : Value) (Cd : qV) => l.length - i) g.1.1 g.1.2.1 g.1.2.2.1 g.1.2.2.2.1 g.1.2.2.2.2.1 g.1.2.2.2.2.2.1 g.1.2.2.2.2.2.2) ⟨(0, W, v, C0, W.gone, _, Cg), by dsimp only; exact ⟨by omega, h0, hs, by omega, rfl⟩⟩ (qX _) ?_
    rintro ⟨⟨i, X, vX, CX, ds, ud, Cd⟩, hloop⟩
    replace hloop : i ≤ l.length ∧ RefC0 ba bl X vX CX ∧ SlC 3 1 ud ds.length (iV ds) Cd ∧ ds.length ≤ 800000 + i ∧ zO (l.drop i) (bs.drop i) (X, ds) = zO l bs (W, W.gone) := hloop
    obtain ⟨hi, hX, hsd, hdl, hcf⟩ := hloop
    show Tr _ _ _ ([(1, ua), (2, .pointer (some ⟨b2, 0, none⟩)), (4, .pointer (some ⟨b4, 0, none⟩)), (9, t19), (12, ud), (13, .int .i64 i)]) (Cd :: [(b2, .cells vX.toArray 41 (0, 0))] :: [(b4, .cells node0V.toArray 41 (0, 0))] :: CX :: Cp :: Cb :: F) _ _
    refine qO <| qP <| qB rfl <| qB rfl <| q9 (wD (by rw [hvp]; rfl)) ?_
    refine q9 (wL rfl rfl) <| qF <| qL rfl (fun hc11 => ?_) (fun hc11 => ?_)
    ·
     obtain ⟨k, hk⟩ : ∃ k, l[i]? = some k := ⟨_, List.getElem?_eq_getElem (by omega)⟩
     obtain ⟨a, ha⟩ : ∃ a, bs[i]? = some a := ⟨_, List.getElem?_eq_getElem (by omega)⟩
     rw [commitFR_step hk ha] at hcf
     have hkp := hlp k (List.mem_of_getElem? hk)
     rcases hsp with ⟨-, h0', -⟩ | ⟨bP, capP, spP, rfl, hcsP, rfl, hcapP, hncP⟩
     · omega
     rcases hat with ⟨-, h0', -⟩ | ⟨bA, capA, spA, rfl, hcsA, rfl, hcapA, hncA⟩
     · omega
     refine qZ <| qI <| zb (Γ := {pΓ : (RS) × (List Value) × (qV) × (List Int) × (Value) × (qV) // (fun (X2 : RS) (vX2 : List Value) (CX2 : qV) (ds3 : List Int) (ud3 : Value) (Cd3 : qV) => RefC0 ba bl X2 vX2 CX2 ∧ SlC 3 1 ud3 ds3.length (iV ds3) Cd3 ∧ ds3.length ≤ 800001 + i ∧ zO (l.drop (i + 1)) (bs.drop (i + 1)) (X2, ds3) = zO l bs (W, W.gone)) pΓ.1 pΓ.2.1 pΓ.2.2.1 pΓ.2.2.2.1 pΓ.2.2.2.2.1 pΓ.2.2.2.2.2}) (fun g => (fun (X2 : RS) (vX2 : List Value) (CX2 : qV) (ds3 : List Int) (ud3 : Value) (Cd3 : qV) => [(1, .slice (some ⟨bA, 0, none⟩) bs.length capA), (2, .pointer (some ⟨b2, 0, none⟩)), (4, .pointer (some ⟨b4, 0, none⟩)), (9, .slice (some ⟨bP, 0, none⟩) l.length capP), (12, ud3), (13, .int .i64 i)]) g.1.1 g.1.2.1 g.1.2.2.1 g.1.2.2.2.1 g.1.2.2.2.2.1 g.1.2.2.2.2.2) (fun g => (fun (X2 : RS) (vX2 : List Value) (CX2 : qV) (ds3 : List Int) (ud3 : Value) (Cd3 : qV) => Cd3 :: [(b2, .cells vX2.toArray 41 (0, 0))] :: [(b4, .cells node0V.toArray 41 (0, 0))] :: CX2 :: [(bP, .cells (l.flatMap zP ++ spP).toArray 65 (0, 0))] :: [(bA, .cells (iV bs ++ spA).toArray 3 (0, 0))] :: F) g.1.1 g.1.2.1 g.1.2.2.1 g.1.2.2.2.1 g.1.2.2.2.2.1 g.1.2.2.2.2.2) ?_ ?_
     ·
      refine qg <| zb (Γ := {pΓ : (Nat) // (fun (z : Nat) => z = 0) pΓ}) (fun g => (fun (z : Nat) => [(1, .slice (some ⟨bA, 0, none⟩) bs.length capA), (2, .pointer (some ⟨b2, 0, none⟩)), (4, .pointer (some ⟨b4, 0, none⟩)), (9, .slice (some ⟨bP, 0, none⟩) l.length capP), (12, ud), (13, .int .i64 i), (14, .int .i64 (qy X k))]) g.1) (fun g => (fun (z : Nat) => Cd :: [(b2, .cells vX.toArray 41 (0, 0))] :: [(b4, .cells node0V.toArray 41 (0, 0))] :: CX :: [(bP, .cells (l.flatMap zP ++ spP).toArray 65 (0, 0))] :: [(bA, .cells (iV bs ++ spA).toArray 3 (0, 0))] :: F) g.1) ?_ ?_
      ·
       refine yT w8 (show TrS _ _ _ _ [false, false, false, false, false, false, false] _ _ _ from ?_)
       refine qJ 1 rfl rfl rfl (wP rfl) <| qJ 2 rfl rfl rfl (wP rfl) <| qJ 3 rfl rfl rfl (wv (j := i) (off := i * 2) rfl rfl rfl (by omega) (by simp)) ?_
       refine wy (i := 0) (j := 4) (by kernel_rfl) rfl ?_ ?_
       ·
        refine qe rfl rfl rfl (wS rfl hX.len) <| qR 4 rfl <| qe rfl rfl rfl (zC (j := i) y4 rfl hk rfl) <| qR 5 rfl <| qe rfl rfl rfl (wJ rfl (zS (CX) (ZS X vX CX hX k hkp))) <| qJ 6 rfl rfl rfl (wM rfl) <| wG <| qW ⟨0, ?_⟩ ?_
        · (try dsimp only); all_goals rfl
        · (try dsimp only); exact qX _
       ·
        refine qe rfl rfl rfl (zC (j := i) y4 rfl hk rfl) <| qR 0 rfl <| qe rfl rfl rfl (wS rfl hX.len) <| qR 5 rfl <| qe rfl rfl rfl (wJ rfl (zS (CX) (ZS X vX CX hX k hkp))) <| qJ 6 rfl rfl rfl (wM rfl) <| wG <| qW ⟨0, ?_⟩ ?_
        · (try dsimp only); all_goals rfl
        · (try dsimp only); exact qX _
      rintro ⟨z, hcut⟩
      replace hcut : z = 0 := hcut
      have hz := hcut
      show Tr _ _ _ ([(1, .slice (some ⟨bA, 0, none⟩) bs.length capA), (2, .pointer (some ⟨b2, 0, none⟩)), (4, .pointer (some ⟨b4, 0, none⟩)), (9, .slice (some ⟨bP, 0, none⟩) l.length capP), (12, ud), (13, .int .i64 i), (14, .int .i64 (qy X k))]) (Cd :: [(b2, .cells vX.toArray 41 (0, 0))] :: [(b4, .cells node0V.toArray 41 (0, 0))] :: CX :: [(bP, .cells (l.flatMap zP ++ spP).toArray 65 (0, 0))] :: [(bA, .cells (iV bs ++ spA).toArray 3 (0, 0))] :: F) _ _
      refine zb (Γ := {pΓ : (List Int) × (Value) × (qV) // (fun (ds2 : List Int) (ud2 : Value) (Cd2 : qV) => SlC 3 1 ud2 ds2.length (iV ds2) Cd2 ∧ ds2 = (if qy X k ≠ 0 then ds ++ [qy X k] else ds) ∧ ds2.length ≤ ds.length + 1) pΓ.1 pΓ.2.1 pΓ.2.2}) (fun g => (fun (ds2 : List Int) (ud2 : Value) (Cd2 : qV) => [(1, .slice (some ⟨bA, 0, none⟩) bs.length capA), (2, .pointer (some ⟨b2, 0, none⟩)), (4, .pointer (some ⟨b4, 0, none⟩)), (9, .slice (some ⟨bP, 0, none⟩) l.length capP), (12, ud2), (13, .int .i64 i)]) g.1.1 g.1.2.1 g.1.2.2) (fun g => (fun (ds2 : List Int) (ud2 : Value) (Cd2 : qV) => Cd2 :: [(b2, .cells vX.toArray 41 (0, 0))] :: [(b4, .cells node0V.toArray 41 (0, 0))] :: CX :: [(bP, .cells (l.flatMap zP ++ spP).toArray 65 (0, 0))] :: [(bA, .cells (iV bs ++ spA).toArray 3 (0, 0))] :: F) g.1.1 g.1.2.1 g.1.2.2) ?_ ?_
      ·
       refine qP <| qB rfl <| q9 (wz rfl rfl) <| qF <| qL rfl (fun hc14 => ?_) (fun hc14 => ?_)
       ·
        refine qK <| qB rfl <| qB rfl <| qG (wK rfl rfl rfl) ?_
        rintro t66 _ ⟨b66, rfl, rfl⟩
        refine qG (wg (m := 1) (sz := 1) rfl rfl hsd (wi (ys := iV [qy X k]) inferInstance rfl rfl) rfl Tryz.underlying39 rfl rfl (by omega)) ?_
        rintro t67 _ ⟨C', hs', rfl⟩
        refine qD rfl <| qT <| qW ⟨(ds ++ [qy X k], t67, C'), ?_⟩ ?_
        · (try dsimp only); exact ⟨by rw [List.length_append]; simpa [iV] using hs', by rw [if_pos hc14], by simp⟩
        · (try dsimp only); exact qX _
       ·
        refine qZ <| qW ⟨(ds, ud, Cd), ?_⟩ ?_
        · (try dsimp only); exact ⟨hsd, by rw [if_neg hc14], by omega⟩
        · (try dsimp only); exact qX _
      rintro ⟨⟨ds2, ud2, Cd2⟩, hcut⟩
      replace hcut : SlC 3 1 ud2 ds2.length (iV ds2) Cd2 ∧ ds2 = (if qy X k ≠ 0 then ds ++ [qy X k] else ds) ∧ ds2.length ≤ ds.length + 1 := hcut
      obtain ⟨hsd2, hd2, hdl2⟩ := hcut
      show Tr _ _ _ ([(1, .slice (some ⟨bA, 0, none⟩) bs.length capA), (2, .pointer (some ⟨b2, 0, none⟩)), (4, .pointer (some ⟨b4, 0, none⟩)), (9, .slice (some ⟨bP, 0, none⟩) l.length capP), (12, ud2), (13, .int .i64 i)]) (Cd2 :: [(b2, .cells vX.toArray 41 (0, 0))] :: [(b4, .cells node0V.toArray 41 (0, 0))] :: CX :: [(bP, .cells (l.flatMap zP ++ spP).toArray 65 (0, 0))] :: [(bA, .cells (iV bs ++ spA).toArray 3 (0, 0))] :: F) _ _
      refine yT w8 (show TrS _ _ _ _ [false, false, false, false, false, false, false, false, false, false, false] _ _ _ from ?_)
      refine qJ 1 rfl rfl rfl (wP rfl) <| qJ 2 rfl rfl rfl (wP rfl) <| qJ 3 rfl rfl rfl (wv (j := i) (off := i * 2) rfl rfl rfl (by omega) (by simp)) ?_
      refine qJ 5 rfl rfl rfl (wP rfl) <| qJ 6 rfl rfl rfl (wP rfl) <| qJ 7 rfl rfl rfl (wv (j := i) (off := i * 1) rfl rfl rfl (by omega) (by simp)) ?_
      refine xX (i := 0) (j := 4) (k := 8) (by kernel_rfl) rfl ?_ ?_ ?_
      ·
       refine qe rfl rfl rfl (wS rfl hX.len) <| wy (i := 4) (j := 8) (by kernel_rfl) rfl ?_ ?_
       ·
        refine qe rfl rfl rfl (zC (j := i) y4 rfl hk rfl) <| qR 8 rfl <| qe rfl rfl rfl (qH rfl (jW ha)) <| qR 9 rfl <| wB rfl rfl rfl (qx rfl (wc (CX) (Qo X vX CX hX k hkp a))) ?_
        rintro t77 _ ⟨lX, CX', rfl, hX', rfl⟩
        refine qR 10 rfl <| wR rfl rfl rfl (qq rfl rfl hX.len hX'.len hX'.one) <| wG <| qf <| qW ⟨(kW X k a, lX, CX', ds2, ud2, Cd2), ?_⟩ ?_
        · (try dsimp only); exact ⟨hX', hsd2, by omega, by rw [hd2]; exact hcf⟩
        · (try dsimp only); exact qX _
       ·
        refine qe rfl rfl rfl (qH rfl (jW ha)) <| qR 4 rfl <| qe rfl rfl rfl (zC (j := i) y4 rfl hk rfl) <| qR 9 rfl <| wB rfl rfl rfl (qx rfl (wc (CX) (Qo X vX CX hX k hkp a))) ?_
        rintro t77 _ ⟨lX, CX', rfl, hX', rfl⟩
        refine qR 10 rfl <| wR rfl rfl rfl (qq rfl rfl hX.len hX'.len hX'.one) <| wG <| qf <| qW ⟨(kW X k a, lX, CX', ds2, ud2, Cd2), ?_⟩ ?_
        · (try dsimp only); exact ⟨hX', hsd2, by omega, by rw [hd2]; exact hcf⟩
        · (try dsimp only); exact qX _
      ·
       refine qe rfl rfl rfl (zC (j := i) y4 rfl hk rfl) <| wy (i := 0) (j := 8) (by kernel_rfl) rfl ?_ ?_
       ·
        refine qe rfl rfl rfl (wS rfl hX.len) <| qR 8 rfl <| qe rfl rfl rfl (qH rfl (jW ha)) <| qR 9 rfl <| wB rfl rfl rfl (qx rfl (wc (CX) (Qo X vX CX hX k hkp a))) ?_
        rintro t77 _ ⟨lX, CX', rfl, hX', rfl⟩
        refine qR 10 rfl <| wR rfl rfl rfl (qq rfl rfl hX.len hX'.len hX'.one) <| wG <| qf <| qW ⟨(kW X k a, lX, CX', ds2, ud2, Cd2), ?_⟩ ?_
        · (try dsimp only); exact ⟨hX', hsd2, by omega, by rw [hd2]; exact hcf⟩
        · (try dsimp only); exact qX _
       ·
        refine qe rfl rfl rfl (qH rfl (jW ha)) <| qR 0 rfl <| qe rfl rfl rfl (wS rfl hX.len) <| qR 9 rfl <| wB rfl rfl rfl (qx rfl (wc (CX) (Qo X vX CX hX k hkp a))) ?_
        rintro t77 _ ⟨lX, CX', rfl, hX', rfl⟩
        refine qR 10 rfl <| wR rfl rfl rfl (qq rfl rfl hX.len hX'.len hX'.one) <| wG <| qf <| qW ⟨(kW X k a, lX, CX', ds2, ud2, Cd2), ?_⟩ ?_
        · (try dsimp only); exact ⟨hX', hsd2, by omega, by rw [hd2]; exact hcf⟩
        · (try dsimp only); exact qX _
      ·
       refine qe rfl rfl rfl (qH rfl (jW ha)) <| wy (i := 0) (j := 4) (by kernel_rfl) rfl ?_ ?_
       ·
        refine qe rfl rfl rfl (wS rfl hX.len) <| qR 4 rfl <| qe rfl rfl rfl (zC (j := i) y4 rfl hk rfl) <| qR 9 rfl <| wB rfl rfl rfl (qx rfl (wc (CX) (Qo X vX CX hX k hkp a))) ?_
        rintro t77 _ ⟨lX, CX', rfl, hX', rfl⟩
        refine qR 10 rfl <| wR rfl rfl rfl (qq rfl rfl hX.len hX'.len hX'.one) <| wG <| qf <| qW ⟨(kW X k a, lX, CX', ds2, ud2, Cd2), ?_⟩ ?_
        · (try dsimp only); exact ⟨hX', hsd2, by omega, by rw [hd2]; exact hcf⟩
        · (try dsimp only); exact qX _
       ·
        refine qe rfl rfl rfl (zC (j := i) y4 rfl hk rfl) <| qR 0 rfl <| qe rfl rfl rfl (wS rfl hX.len) <| qR 9 rfl <| wB rfl rfl rfl (qx rfl (wc (CX) (Qo X vX CX hX k hkp a))) ?_
        rintro t77 _ ⟨lX, CX', rfl, hX', rfl⟩
        refine qR 10 rfl <| wR rfl rfl rfl (qq rfl rfl hX.len hX'.len hX'.one) <| wG <| qf <| qW ⟨(kW X k a, lX, CX', ds2, ud2, Cd2), ?_⟩ ?_
        · (try dsimp only); exact ⟨hX', hsd2, by omega, by rw [hd2]; exact hcf⟩
        · (try dsimp only); exact qX _
     rintro ⟨⟨X2, vX2, CX2, ds3, ud3, Cd3⟩, hcut⟩
     replace hcut : RefC0 ba bl X2 vX2 CX2 ∧ SlC 3 1 ud3 ds3.length (iV ds3) Cd3 ∧ ds3.length ≤ 800001 + i ∧ zO (l.drop (i + 1)) (bs.drop (i + 1)) (X2, ds3) = zO l bs (W, W.gone) := hcut
     obtain ⟨hX2, hsd3, hdl3, hcf3⟩ := hcut
     show Tr _ _ _ ([(1, .slice (some ⟨bA, 0, none⟩) bs.length capA), (2, .pointer (some ⟨b2, 0, none⟩)), (4, .pointer (some ⟨b4, 0, none⟩)), (9, .slice (some ⟨bP, 0, none⟩) l.length capP), (12, ud3), (13, .int .i64 i)]) (Cd3 :: [(b2, .cells vX2.toArray 41 (0, 0))] :: [(b4, .cells node0V.toArray 41 (0, 0))] :: CX2 :: [(bP, .cells (l.flatMap zP ++ spP).toArray 65 (0, 0))] :: [(bA, .cells (iV bs ++ spA).toArray 3 (0, 0))] :: F) _ _
     refine qK <| qB rfl <| q9 (w9 rfl rfl (by omega)) <| qD rfl <| qT <| w5 ⟨(i + 1, X2, vX2, CX2, ds3, ud3, Cd3), ?_⟩ ?_ ?_
     · (try dsimp only); exact ⟨by omega, hX2, hsd3, by omega, hcf3⟩
     · (try dsimp only); omega
     · (try dsimp only); exact qX _
    ·
     refine wb <| qr <| qt <| qj <| qI <| qO ?_
     rw [List.drop_of_length_le (by omega), jg] at hcf
     obtain rfl : X = m := by rw [← hm]; unfold yu; rw [hl, ← hcf]
     have hdd : xh W bs = ds := by unfold xh; rw [hl, ← hcf]
     refine qK <| qD rfl <| qF <| qO <| qP <| qD rfl <| qF <| qg <| wV (Γ := {pΓ : (Nat) × (Value) × (qV) // (fun (j : Nat) (us : Value) (Cs : qV) => j ≤ l.length ∧ SlC 54 128 us j ((l.take j).flatMap (fun k => ww (zB X k))) Cs) pΓ.1 pΓ.2.1 pΓ.2.2}) (fun g => (fun (j : Nat) (us : Value) (Cs : qV) => [(2, .pointer (some ⟨b2, 0, none⟩)), (4, .pointer (some ⟨b4, 0, none⟩)), (9, t19), (12, ud), (15, us), (16, .int .i64 j)]) g.1.1 g.1.2.1 g.1.2.2) (fun g => (fun (j : Nat) (us : Value) (Cs : qV) => Cs :: Cd :: [(b2, .cells vX.toArray 41 (0, 0))] :: [(b4, .cells node0V.toArray 41 (0, 0))] :: CX :: Cp :: Cb :: F) g.1.1 g.1.2.1 g.1.2.2) (fun g => (fun (j : Nat) (us : Value) (Cs : qV) => l.length - j) g.1.1 g.1.2.1 g.1.2.2) ⟨(0, .slice none 0 0, []), by dsimp only; exact ⟨by omega, SlC.nil _ _⟩⟩ (qX _) ?_
     rintro ⟨⟨j, us, Cs⟩, hloop⟩
     replace hloop : j ≤ l.length ∧ SlC 54 128 us j ((l.take j).flatMap (fun k => ww (zB X k))) Cs := hloop
     obtain ⟨hj, hss⟩ := hloop
     show Tr _ _ _ ([(2, .pointer (some ⟨b2, 0, none⟩)), (4, .pointer (some ⟨b4, 0, none⟩)), (9, t19), (12, ud), (15, us), (16, .int .i64 j)]) (Cs :: Cd :: [(b2, .cells vX.toArray 41 (0, 0))] :: [(b4, .cells node0V.toArray 41 (0, 0))] :: CX :: Cp :: Cb :: F) _ _
     refine qO <| qP <| qB rfl <| qB rfl <| q9 (wD (by rw [hvp]; rfl)) ?_
     refine q9 (wL rfl rfl) <| qF <| qL rfl (fun hc19 => ?_) (fun hc19 => ?_)
     ·
      obtain ⟨k, hk⟩ : ∃ k, l[j]? = some k := ⟨_, List.getElem?_eq_getElem (by omega)⟩
      have hkp := hlp k (List.mem_of_getElem? hk)
      rcases hsp with ⟨-, h0', -⟩ | ⟨bP, capP, spP, rfl, hcsP, rfl, hcapP, hncP⟩
      · omega
      refine qZ <| qI <| zb (Γ := {pΓ : (Value) × (qV) // (fun (us2 : Value) (Cs2 : qV) => SlC 54 128 us2 (j + 1) ((l.take (j + 1)).flatMap (fun k => ww (zB X k))) Cs2) pΓ.1 pΓ.2}) (fun g => (fun (us2 : Value) (Cs2 : qV) => [(2, .pointer (some ⟨b2, 0, none⟩)), (4, .pointer (some ⟨b4, 0, none⟩)), (9, .slice (some ⟨bP, 0, none⟩) l.length capP), (12, ud), (15, us2), (16, .int .i64 j)]) g.1.1 g.1.2) (fun g => (fun (us2 : Value) (Cs2 : qV) => Cs2 :: Cd :: [(b2, .cells vX.toArray 41 (0, 0))] :: [(b4, .cells node0V.toArray 41 (0, 0))] :: CX :: [(bP, .cells (l.flatMap zP ++ spP).toArray 65 (0, 0))] :: Cb :: F) g.1.1 g.1.2) ?_ ?_
      ·
       refine qg <| yT w8 (show TrS _ _ _ _ [false, false, false, false, false, false, false, false, false, false] _ _ _ from ?_)
       refine qJ 0 rfl rfl rfl (wP rfl) <| qJ 2 rfl rfl rfl (wP rfl) <| qJ 3 rfl rfl rfl (wP rfl) <| qJ 4 rfl rfl rfl (wv (j := j) (off := j * 2) rfl rfl rfl (by omega) (by simp)) ?_
       refine wy (i := 1) (j := 5) (by kernel_rfl) rfl ?_ ?_
       ·
        refine qe rfl rfl rfl (wS rfl hX.len) <| qR 5 rfl <| qe rfl rfl rfl (zC (j := j) y4 rfl hk rfl) <| qR 6 rfl <| qe rfl rfl rfl (wJ rfl (zS (CX) (Kb X vX CX hX hok k hkp))) <| qR 7 rfl <| wB rfl rfl rfl (wK rfl rfl rfl) ?_
        rintro t91 _ ⟨b91, rfl, rfl⟩
        refine qR 8 rfl <| wB rfl rfl rfl (wg (m := 1) (sz := 128) rfl rfl hss (wi (ys := ww (zB X k)) inferInstance (by simp [QB]) (by simp)) (wt _) Tryz.underlying105 rfl (by simp [Value.cells]) (by omega)) ?_
        rintro t92 _ ⟨C', hs', rfl⟩
        refine qJ 9 rfl rfl rfl (wM rfl) <| wG <| qf <| qW ⟨(_, C'), ?_⟩ ?_
        · (try dsimp only); rw [List.take_add_one, hk, List.flatMap_append]; simpa using hs'
        · (try dsimp only); exact qX _
       ·
        refine qe rfl rfl rfl (zC (j := j) y4 rfl hk rfl) <| qR 1 rfl <| qe rfl rfl rfl (wS rfl hX.len) <| qR 6 rfl <| qe rfl rfl rfl (wJ rfl (zS (CX) (Kb X vX CX hX hok k hkp))) <| qR 7 rfl <| wB rfl rfl rfl (wK rfl rfl rfl) ?_
        rintro t91 _ ⟨b91, rfl, rfl⟩
        refine qR 8 rfl <| wB rfl rfl rfl (wg (m := 1) (sz := 128) rfl rfl hss (wi (ys := ww (zB X k)) inferInstance (by simp [QB]) (by simp)) (wt _) Tryz.underlying105 rfl (by simp [Value.cells]) (by omega)) ?_
        rintro t92 _ ⟨C', hs', rfl⟩
        refine qJ 9 rfl rfl rfl (wM rfl) <| wG <| qf <| qW ⟨(_, C'), ?_⟩ ?_
        · (try dsimp only); rw [List.take_add_one, hk, List.flatMap_append]; simpa using hs'
        · (try dsimp only); exact qX _
      rintro ⟨⟨us2, Cs2⟩, hcut⟩
      replace hcut : SlC 54 128 us2 (j + 1) ((l.take (j + 1)).flatMap (fun k => ww (zB X k))) Cs2 := hcut
      have hss2 := hcut
      show Tr _ _ _ ([(2, .pointer (some ⟨b2, 0, none⟩)), (4, .pointer (some ⟨b4, 0, none⟩)), (9, .slice (some ⟨bP, 0, none⟩) l.length capP), (12, ud), (15, us2), (16, .int .i64 j)]) (Cs2 :: Cd :: [(b2, .cells vX.toArray 41 (0, 0))] :: [(b4, .cells node0V.toArray 41 (0, 0))] :: CX :: [(bP, .cells (l.flatMap zP ++ spP).toArray 65 (0, 0))] :: Cb :: F) _ _
      refine qK <| qB rfl <| q9 (w9 rfl rfl (by omega)) <| qD rfl <| qT <| w5 ⟨(j + 1, us2, Cs2), ?_⟩ ?_ ?_
      · (try dsimp only); exact ⟨by omega, hss2⟩
      · (try dsimp only); omega
      · (try dsimp only); exact qX _
     ·
      refine wb <| qr <| qt <| qj <| qI <| qO ?_
      obtain rfl : j = l.length := by omega
      rw [List.take_length] at hss
      obtain ⟨pX, gX, cX, rfl, rfl⟩ := hX
      unfold kV
      refine yx (L' := Cs :: Cd :: [(b2, .cells [.int .u32 X.num, .int .u32 X.ver, .int .i64 X.kind, .int .i64 X.size, .int .u32 X.time, .slice (some ⟨ba, 0, none⟩) 1064 1064, .slice (some ⟨bl, 0, none⟩) 32 32, .int .i64 X.sg.at_, .bool X.sg.stale, .int .i64 X.db.at_, .bool X.db.stale, .int .i64 X.self.at_, .bool X.self.stale, .slice pX gX cX].toArray 41 (0, 0))] :: [(b4, .cells node0V.toArray 41 (0, 0))] :: [(ba, .cells ((zA X.all).flatMap z7 ++ []).toArray 125 (0, 0))] :: [(bl, .cells ((wO X.leaves).flatMap z6 ++ []).toArray 38 (0, 0))] :: Cp :: Cb :: F) (we (by simp)) ?_
      refine qK <| q9 (qA rfl) <| qS (ws rfl rfl rfl) <| qo <| q9 (qA rfl) <| q9 (w6 rfl) <| qS (ws rfl rfl rfl) <| qo <| q9 (qA rfl) <| q9 (w6 rfl) <| qS (ws rfl rfl rfl) <| qo <| q9 (qA rfl) <| q9 (w6 rfl) <| qS (ws rfl rfl rfl) <| qF <| qO <| qP <| qD rfl <| qF <| qg <| wV (Γ := {pΓ : (Nat) // (fun (k : Nat) => k ≤ 32) pΓ}) (fun g => (fun (k : Nat) => [(2, .pointer (some ⟨b2, 0, none⟩)), (4, .pointer (some ⟨b4, 0, none⟩)), (9, t19), (12, ud), (15, us), (17, .int .i64 k)]) g.1) (fun g => (fun (k : Nat) => Cs :: Cd :: [(b2, .cells [.int .u32 X.num, .int .u32 X.ver, .int .i64 X.kind, .int .i64 X.size, .int .u32 X.time, .slice (some ⟨ba, 0, none⟩) 1064 1064, .slice (some ⟨bl, 0, none⟩) 32 32, .int .i64 X.sg.at_, .bool false, .int .i64 X.db.at_, .bool false, .int .i64 X.self.at_, .bool false, .slice none 0 0].toArray 41 (0, 0))] :: [(b4, .cells node0V.toArray 41 (0, 0))] :: [(ba, .cells ((zA X.all).flatMap z7 ++ []).toArray 125 (0, 0))] :: [(bl, .cells ((wO (lvT X k)).flatMap z6 ++ []).toArray 38 (0, 0))] :: Cp :: Cb :: F) g.1) (fun g => (fun (k : Nat) => 32 - k) g.1) ⟨0, by dsimp only; exact (by omega)⟩ ((by dsimp only; rw [show lvT X (0 : Nat) = X.leaves from by funext j; unfold lvT; rw [if_neg (by omega)]]; exact qX _)) ?_
      rintro ⟨k, hloop⟩
      replace hloop : k ≤ 32 := hloop
      obtain hk := hloop
      show Tr _ _ _ ([(2, .pointer (some ⟨b2, 0, none⟩)), (4, .pointer (some ⟨b4, 0, none⟩)), (9, t19), (12, ud), (15, us), (17, .int .i64 k)]) (Cs :: Cd :: [(b2, .cells [.int .u32 X.num, .int .u32 X.ver, .int .i64 X.kind, .int .i64 X.size, .int .u32 X.time, .slice (some ⟨ba, 0, none⟩) 1064 1064, .slice (some ⟨bl, 0, none⟩) 32 32, .int .i64 X.sg.at_, .bool false, .int .i64 X.db.at_, .bool false, .int .i64 X.self.at_, .bool false, .slice none 0 0].toArray 41 (0, 0))] :: [(b4, .cells node0V.toArray 41 (0, 0))] :: [(ba, .cells ((zA X.all).flatMap z7 ++ []).toArray 125 (0, 0))] :: [(bl, .cells ((wO (lvT X k)).flatMap z6 ++ []).toArray 38 (0, 0))] :: Cp :: Cb :: F) _ _
      refine qO <| qP <| qB rfl <| q9 (wL rfl rfl) <| qF <| qL rfl (fun hc27 => ?_) (fun hc27 => ?_)
      ·
       refine qZ <| qI <| qO <| qg <| qK <| q9 (qA rfl) <| q9 (qH rfl rfl) <| qB rfl <| q9 (qw (j := k) (off := k * 2) rfl rfl rfl (by omega) (by simp)) ?_
       refine q9 (w6 rfl) <| qS (yZ (j := k) (k := 1) (p := X.leaves k) (p' := ⟨(X.leaves k).at_, false⟩) zT rfl rfl (by rw [zD (by omega), lvT_at]) (by omega) rfl rfl) ?_
       refine qT <| qf <| qI <| qK <| qB rfl <| q9 (w9 rfl rfl (by omega)) <| qD rfl <| qT <| w5 ⟨k + 1, ?_⟩ ?_ ?_
       · (try dsimp only); omega
       · (try dsimp only); omega
       · (try dsimp only); exact yW (by rw [show (wO (lvT X k)).set k ⟨(X.leaves k).at_, false⟩ = wO (upd (lvT X k) (k : Int) ⟨(X.leaves k).at_, false⟩) from zx, lvT_step])
      ·
       refine wb <| qr <| qt <| qj <| qI <| qO ?_
       obtain rfl : k = 32 := by omega
       refine yT w8 (show TrS _ _ _ _ [false, false, false, false, false, false, false, false, false, false] _ _ _ from ?_)
       refine qJ 1 rfl rfl rfl (wP rfl) <| qJ 2 rfl rfl rfl (wP rfl) <| qJ 3 rfl rfl rfl (wP rfl) <| wy (i := 0) (j := 4) (by kernel_rfl) rfl ?_ ?_
       ·
        refine qe rfl rfl rfl (wZ rfl) <| qR 4 rfl <| wB rfl rfl rfl (qx rfl (wc (Cd) (ZT ud Cd ds hsd (by omega)))) ?_
        rintro t113 _ ⟨Cd', hsd', rfl⟩
        refine qR 5 rfl <| wR rfl rfl rfl (qq (l := node0V) rfl rfl rfl rfl rfl) <| qJ 6 rfl rfl rfl (wM rfl) <| qJ 7 rfl rfl rfl (wM rfl) <| qJ 8 rfl rfl rfl (wM rfl) <| qJ 9 rfl rfl rfl (wM rfl) <| wG <| zM (qX ([(b4, .cells [.int .u32 X.num, .int .u32 X.ver, .int .i64 X.kind, .int .i64 X.size, .int .u32 X.time, .slice (some ⟨ba, 0, none⟩) 1064 1064, .slice (some ⟨bl, 0, none⟩) 32 32, .int .i64 X.sg.at_, .bool false, .int .i64 X.db.at_, .bool false, .int .i64 X.self.at_, .bool false, .slice none 0 0].toArray 41 (0, 0))] :: [(ba, .cells ((zA X.all).flatMap z7 ++ []).toArray 125 (0, 0))] :: [(bl, .cells ((wO (lvT X 32)).flatMap z6 ++ []).toArray 38 (0, 0))] :: Cp :: Cs :: Cd' :: Cb :: F)) <| zM (we (L' := [(b4, .cells [.int .u32 X.num, .int .u32 X.ver, .int .i64 X.kind, .int .i64 X.size, .int .u32 X.time, .slice (some ⟨ba, 0, none⟩) 1064 1064, .slice (some ⟨bl, 0, none⟩) 32 32, .int .i64 X.sg.at_, .bool false, .int .i64 X.db.at_, .bool false, .int .i64 X.self.at_, .bool false, .slice none 0 0].toArray 41 (0, 0))] :: ((ba, .cells ((zA X.all).flatMap z7 ++ []).toArray 125 (0, 0)) :: (bl, .cells ((wO (lvT X 32)).flatMap z6 ++ []).toArray 38 (0, 0)) :: []) :: Cp :: Cs :: Cd' :: Cb :: F) (by simp)) ?_
        refine qI <| qz <| X0 (((ba, .cells ((zA X.all).flatMap z7 ++ []).toArray 125 (0, 0)) :: (bl, .cells ((wO (lvT X 32)).flatMap z6 ++ []).toArray 38 (0, 0)) :: []) :: Cp :: Cs :: Cd' :: Cb :: F) (.inl rfl) rfl (za rfl) (qu rfl) (qu rfl) (qu rfl) (qu rfl) <| ⟨_, _, _, _, _, _, _, _, rfl, ?_, hsp, hss, by rw [hdd]; exact hsd', rfl⟩
        rw [show zE W bs = Zd X from by unfold zE; rw [hm]]
        exact ⟨_, _, rfl, SlC.nil _ _, rfl⟩
       ·
        refine wB rfl rfl rfl (qx rfl (wc (Cd) (ZT ud Cd ds hsd (by omega)))) ?_
        rintro t113 _ ⟨Cd', hsd', rfl⟩
        refine qR 0 rfl <| qe rfl rfl rfl (wZ rfl) <| qR 5 rfl <| wR rfl rfl rfl (qq (l := node0V) rfl rfl rfl rfl rfl) <| qJ 6 rfl rfl rfl (wM rfl) <| qJ 7 rfl rfl rfl (wM rfl) <| qJ 8 rfl rfl rfl (wM rfl) <| qJ 9 rfl rfl rfl (wM rfl) <| wG <| zM (qX ([(b4, .cells [.int .u32 X.num, .int .u32 X.ver, .int .i64 X.kind, .int .i64 X.size, .int .u32 X.time, .slice (some ⟨ba, 0, none⟩) 1064 1064, .slice (some ⟨bl, 0, none⟩) 32 32, .int .i64 X.sg.at_, .bool false, .int .i64 X.db.at_, .bool false, .int .i64 X.self.at_, .bool false, .slice none 0 0].toArray 41 (0, 0))] :: [(ba, .cells ((zA X.all).flatMap z7 ++ []).toArray 125 (0, 0))] :: [(bl, .cells ((wO (lvT X 32)).flatMap z6 ++ []).toArray 38 (0, 0))] :: Cp :: Cs :: Cd' :: Cb :: F)) <| zM (we (L' := [(b4, .cells [.int .u32 X.num, .int .u32 X.ver, .int .i64 X.kind, .int .i64 X.size, .int .u32 X.time, .slice (some ⟨ba, 0, none⟩) 1064 1064, .slice (some ⟨bl, 0, none⟩) 32 32, .int .i64 X.sg.at_, .bool false, .int .i64 X.db.at_, .bool false, .int .i64 X.self.at_, .bool false, .slice none 0 0].toArray 41 (0, 0))] :: ((ba, .cells ((zA X.all).flatMap z7 ++ []).toArray 125 (0, 0)) :: (bl, .cells ((wO (lvT X 32)).flatMap z6 ++ []).toArray 38 (0, 0)) :: []) :: Cp :: Cs :: Cd' :: Cb :: F) (by simp)) ?_
        refine qI <| qz <| X0 (((ba, .cells ((zA X.all).flatMap z7 ++ []).toArray 125 (0, 0)) :: (bl, .cells ((wO (lvT X 32)).flatMap z6 ++ []).toArray 38 (0, 0)) :: []) :: Cp :: Cs :: Cd' :: Cb :: F) (.inl rfl) rfl (za rfl) (qu rfl) (qu rfl) (qu rfl) (qu rfl) <| ⟨_, _, _, _, _, _, _, _, rfl, ?_, hsp, hss, by rw [hdd]; exact hsd', rfl⟩
        rw [show zE W bs = Zd X from by unfold zE; rw [hm]]
        exact ⟨_, _, rfl, SlC.nil _ _, rfl⟩
end
end Go.Proofs.YtjikpomndbkfgaaGreatDoor
namespace Go.Sx
open Go
instance At.fst2 (a b : Nat) (oa ob : Obj) (L : Res) : At ([(a, oa), (b, ob)] :: L) a oa (fun o' => [(a, o'), (b, ob)] :: L) := ⟨[], (b, ob) :: L.flatten, by simp, fun _ => by simp⟩
instance At.snd2 (a b : Nat) (oa ob : Obj) (L : Res) : At ([(a, oa), (b, ob)] :: L) b ob (fun o' => [(a, oa), (b, o')] :: L) := ⟨[(a, oa)], L.flatten, by simp, fun _ => by simp⟩
end Go.Sx
namespace Go.Proofs.YtjikpomndbkfgaaGreatDoor
open Go Go.Sx Go.Nd
set_option maxRecDepth 10000
section
variable {w0 : World} {L F : Res} {ba bl : Nat}
def stV (p : Nat) (v : List Value) (md : Nat) (nx : Int) (dn : Bool) : List Value := .pointer (some ⟨p, 0, none⟩) :: (v ++ [.map (some md), .int .i64 nx, .bool dn])
section
variable {p md : Nat} {v : List Value} {nx : Int} {dn : Bool}
theorem ja (h : v.length = 14) : (stV p v md nx dn).length = 18 := by simp [stV, h]
theorem jL : wX (stV p v md nx dn) 0 = some (.pointer (some ⟨p, 0, none⟩)) := rfl
theorem kT (h : v.length = 14) : ((stV p v md nx dn).drop 1).take 14 = v := by simp [stV, ← h]
theorem YO (h : v.length = 14) {i : Nat} (hi : i < 14) : wX (stV p v md nx dn) (1 + i) = wX v i := by
  rw [zK, zK, Nat.add_comm]; unfold stV; rw [List.getElem?_cons_succ, List.getElem?_append_left (by omega)]
theorem Vg (h : v.length = 14) : wX (stV p v md nx dn) 15 = some (.map (some md)) := by
  rw [zK]; unfold stV; rw [List.getElem?_cons_succ, List.getElem?_append_right (by omega), h]; rfl
theorem MZ (h : v.length = 14) : wX (stV p v md nx dn) 16 = some (.int .i64 nx) := by
  rw [zK]; unfold stV; rw [List.getElem?_cons_succ, List.getElem?_append_right (by omega), h]; rfl
theorem Ma (h : v.length = 14) : wX (stV p v md nx dn) 17 = some (.bool dn) := by
  rw [zK]; unfold stV; rw [List.getElem?_cons_succ, List.getElem?_append_right (by omega), h]; rfl
theorem MC (q : Nat) : (stV p v md nx dn).set 0 (.pointer (some ⟨q, 0, none⟩)) = stV q v md nx dn := rfl
theorem stV_sn (h : v.length = 14) (n' : Int) : (stV p v md nx dn).set 16 (.int .i64 n') = stV p v md n' dn := by
  unfold stV; rw [List.set_cons_succ, List.set_append_right _ _ (by omega), h]; rfl
theorem stV_sd (h : v.length = 14) (b : Bool) : (stV p v md nx dn).set 17 (.bool b) = stV p v md nx b := by
  unfold stV; rw [List.set_cons_succ, List.set_append_right _ _ (by omega), h]; rfl
theorem WA {v' : List Value} (h : v.length = 14) (h' : v'.length = 14) : (stV p v md nx dn).take 1 ++ v' ++ (stV p v md nx dn).drop (1 + v'.length) = stV p v' md nx dn := by
  rw [h']; unfold stV
  rw [show 1 + 14 = 14 + 1 from rfl, List.drop_succ_cons, List.drop_append_of_le_length (by omega), List.drop_of_length_le (by omega)]
  rfl
end
abbrev StD (x p : Nat) (v : List Value) (md : Nat) (nx : Int) (dn : Bool) (od : Obj) : qV := [(x, .cells (stV p v md nx dn).toArray 44 (0, 0)), (md, od)]
def gS (dn : Bool) (D : Int → Option Sec) (a : Int) : Option Sec := if dn then none else D a
theorem Qb (x p md : Nat) (v : List Value) (nx : Int) (dn : Bool) (od : Obj) (D : Int → Option Sec) (hv : v.length = 14) (hD : MapF (Value.int .i64) jH D od) :
    KC (.func (.func 11) #[.pointer (some ⟨x, 0, none⟩)] #[]) (StD x p v md nx dn od) (gS dn D) := by
  intro w0 F a
  refine Z0 (first := [.pointer (some ⟨x, 0, none⟩)]) (captured := []) (vs := [.int .i64 a]) ?_
  refine qh (E0 := [(0, _), (1, _)]) (N := 27) Tryz.func11 rfl rfl rfl rfl ?_
  refine qP <| qG (qn) ?_
  rintro t4 _ ⟨b4, rfl, rfl⟩
  refine qD rfl <| qo <| qB rfl <| q9 (qQ rfl) <| q9 (qA rfl) <| q9 (qH rfl (Vg hv)) <| qB rfl <| q9 (yr (z := Sec.zero) (q := a) rfl rfl hD) <| qB rfl <| q9 (qi rfl rfl) <| q9 (qi rfl rfl) <| qG (qn) ?_
  rintro t6 _ ⟨b6, rfl, rfl⟩
  refine qS (qq rfl rfl (by simp) (by simp) (wt _)) ?_
  refine qD rfl <| qF <| qO <| qP <| qB rfl <| q9 (qQ rfl) <| q9 (qA rfl) <| q9 (qH rfl (Ma hv)) <| qB rfl <| y0 (s := 21) rfl (fun hg2_4 => ?_) (fun hg2_4 => ?_)
  ·
   refine qN rfl rfl rfl <| qN rfl rfl rfl <| q9 (qk rfl rfl) <| qF <| zL rfl <| qP <| q9 (kQ (z := jH Sec.zero) rfl Tryz.underlying55 rfl (fun _ h => by cases h) (fun _ _ h => by cases h; exact ⟨_, inferInstance⟩)) ?_
   refine qS (qq rfl rfl (by simp) (by simp) (wt _)) ?_
   refine qD rfl <| qF <| qz <| w7 <| wY (StD x p v md nx dn od :: F) (.inl rfl) rfl (zX rfl (by first | exact zk _ | simp)) (qu rfl) ?_
   have hg : gS dn D a = none := by
     unfold gS
     first
     | (rw [if_pos hg2_4]; done)
     | (rw [if_neg (by rw [hg2_4]; simp)]; simpa using hc2)
   exact ⟨by rw [hg]; rfl, rfl⟩
  ·
   refine qE rfl rfl (qM rfl) <| qE rfl rfl (kN rfl) <| q9 (qU rfl rfl) <| qF <| y3 rfl (fun hc2 => ?_) (fun hc2 => ?_)
   ·
    refine qP <| q9 (kQ (z := jH Sec.zero) rfl Tryz.underlying55 rfl (fun _ h => by cases h) (fun _ _ h => by cases h; exact ⟨_, inferInstance⟩)) ?_
    refine qS (qq rfl rfl (by simp) (by simp) (wt _)) ?_
    refine qD rfl <| qF <| qz <| w7 <| wY (StD x p v md nx dn od :: F) (.inl rfl) rfl (zX rfl (by first | exact zk _ | simp)) (qu rfl) ?_
    have hg : gS dn D a = none := by
      unfold gS
      first
      | (rw [if_pos hg2_4]; done)
      | (rw [if_neg (by rw [hg2_4]; simp)]; simpa using hc2)
    exact ⟨by rw [hg]; rfl, rfl⟩
   ·
    refine qZ <| qI <| qP <| q9 (wS rfl (by simp)) ?_
    refine qS (qq rfl rfl (by simp) (by simp) (wt _)) ?_
    refine qD rfl <| qF <| qz <| wY (StD x p v md nx dn od :: F) (.inl rfl) rfl (zX rfl (by first | exact zk _ | simp)) (qu rfl) ?_
    have hg : gS dn D a = D a := by unfold gS; rw [if_neg (by rw [hg2_4]; simp)]
    have hs : (D a).isSome = true := by simpa using hc2
    exact ⟨by rw [hg, if_pos hs]; rfl, rfl⟩
theorem num_ok (p : Nat) (n : NS) (Cn : qV) (hn : NodeC p n Cn) : FnT Tryz.prog w0 58 #[.pointer (some ⟨p, 0, none⟩)] (Cn :: F) (fun v L' => v = .int .u32 n.num ∧ L' = Cn :: F) := by
  refine xR hn ?_
  intro ma md ms oa od os u C hm
  unfold kM zI
  refine qh (E0 := [(0, _)]) (N := 7) Tryz.func58 rfl rfl rfl rfl ?_
  refine qP <| qD rfl <| qo <| qB rfl <| q9 (qQ rfl) <| q9 (qA rfl) <| q9 (qH rfl rfl) <| qD rfl <| qF <| qz <| wF ([(p, .cells [.int .u32 n.num, .int .u32 n.ver, .int .i64 n.kind, .int .i64 n.size, .int .u32 n.time, .map (some ma), .map (some md), .map (some ms), u].toArray 90 (0, 0))] :: [(ma, oa)] :: [(md, od)] :: [(ms, os)] :: C :: F) (.inl rfl) rfl (qu rfl) ?_
  exact ⟨rfl, rfl⟩
theorem version_ok (p : Nat) (n : NS) (Cn : qV) (hn : NodeC p n Cn) : FnT Tryz.prog w0 59 #[.pointer (some ⟨p, 0, none⟩)] (Cn :: F) (fun v L' => v = .int .u32 n.ver ∧ L' = Cn :: F) := by
  refine xR hn ?_
  intro ma md ms oa od os u C hm
  unfold kM zI
  refine qh (E0 := [(0, _)]) (N := 7) Tryz.func59 rfl rfl rfl rfl ?_
  refine qP <| qD rfl <| qo <| qB rfl <| q9 (qQ rfl) <| q9 (qA rfl) <| q9 (qH rfl rfl) <| qD rfl <| qF <| qz <| wF ([(p, .cells [.int .u32 n.num, .int .u32 n.ver, .int .i64 n.kind, .int .i64 n.size, .int .u32 n.time, .map (some ma), .map (some md), .map (some ms), u].toArray 90 (0, 0))] :: [(ma, oa)] :: [(md, od)] :: [(ms, os)] :: C :: F) (.inl rfl) rfl (qu rfl) ?_
  exact ⟨rfl, rfl⟩
theorem kind_ok (p : Nat) (n : NS) (Cn : qV) (hn : NodeC p n Cn) : FnT Tryz.prog w0 60 #[.pointer (some ⟨p, 0, none⟩)] (Cn :: F) (fun v L' => v = .int .i64 n.kind ∧ L' = Cn :: F) := by
  refine xR hn ?_
  intro ma md ms oa od os u C hm
  unfold kM zI
  refine qh (E0 := [(0, _)]) (N := 7) Tryz.func60 rfl rfl rfl rfl ?_
  refine qP <| qD rfl <| qo <| qB rfl <| q9 (qQ rfl) <| q9 (qA rfl) <| q9 (qH rfl rfl) <| qD rfl <| qF <| qz <| wF ([(p, .cells [.int .u32 n.num, .int .u32 n.ver, .int .i64 n.kind, .int .i64 n.size, .int .u32 n.time, .map (some ma), .map (some md), .map (some ms), u].toArray 90 (0, 0))] :: [(ma, oa)] :: [(md, od)] :: [(ms, os)] :: C :: F) (.inl rfl) rfl (qu rfl) ?_
  exact ⟨rfl, rfl⟩
theorem time_ok (p : Nat) (n : NS) (Cn : qV) (hn : NodeC p n Cn) : FnT Tryz.prog w0 61 #[.pointer (some ⟨p, 0, none⟩)] (Cn :: F) (fun v L' => v = .int .u32 n.time ∧ L' = Cn :: F) := by
  refine xR hn ?_
  intro ma md ms oa od os u C hm
  unfold kM zI
  refine qh (E0 := [(0, _)]) (N := 7) Tryz.func61 rfl rfl rfl rfl ?_
  refine qP <| qD rfl <| qo <| qB rfl <| q9 (qQ rfl) <| q9 (qA rfl) <| q9 (qH rfl rfl) <| qD rfl <| qF <| qz <| wF ([(p, .cells [.int .u32 n.num, .int .u32 n.ver, .int .i64 n.kind, .int .i64 n.size, .int .u32 n.time, .map (some ma), .map (some md), .map (some ms), u].toArray 90 (0, 0))] :: [(ma, oa)] :: [(md, od)] :: [(ms, os)] :: C :: F) (.inl rfl) rfl (qu rfl) ?_
  exact ⟨rfl, rfl⟩
theorem Ys (p : Nat) (a m : Int) (rv : Value) (h : a < 0 ∨ m < 0) :
    FnT Tryz.prog w0 9 #[.pointer (some ⟨p, 0, none⟩), .int .i64 a, .int .i64 m, rv] F (fun v L' => v = .tuple #[.slice none 0 0, .int .i64 1] ∧ L' = F) := by
  refine qh (E0 := [(0, _), (1, _), (2, _), (3, _)]) (N := 72) Tryz.func9 rfl rfl rfl rfl ?_
  refine qP <| qD rfl <| qD rfl <| qF <| qO <| qP <| qB rfl <| q9 (wL rfl rfl) <| qB rfl <| qY (s := 19) rfl (fun hg1_2 => ?_) (fun hg1_2 => ?_)
  ·
   refine qN rfl rfl rfl <| qN rfl rfl rfl <| q9 (qk rfl rfl) <| qF <| zL rfl <| qP <| qD rfl <| qD rfl <| qF <| qz <| w7 <| wY F (.inl rfl) rfl (qu rfl) (qu rfl) ?_
   exact ⟨rfl, rfl⟩
  ·
   refine qE rfl rfl (qM rfl) <| qE rfl rfl (wL rfl rfl) <| q9 (qU rfl rfl) <| qF <| qL rfl (fun hc1 => ?_) (fun hc1 => ?_)
   ·
    refine qP <| qD rfl <| qD rfl <| qF <| qz <| w7 <| wY F (.inl rfl) rfl (qu rfl) (qu rfl) ?_
    exact ⟨rfl, rfl⟩
   · (exfalso; omega)
theorem Zk {xs ys : List Int} {i : Nat} {a b : Int} (ha : xs[i]? = some a) (hb : ys[i]? = some b) (h : xs.take i = ys.take i) (e : a = b) : xs.take (i + 1) = ys.take (i + 1) := by
  rw [List.take_add_one, List.take_add_one, h, ha, hb, e]
theorem Mb {xs ys : List Int} {i : Nat} {a b : Int} (ha : xs[i]? = some a) (hb : ys[i]? = some b) (e : a ≠ b) : xs ≠ ys := by
  intro h; subst h; rw [ha] at hb; exact e (Option.some.inj hb)
theorem KH (u1 u2 : Value) (C1 C2 : qV) (xs ys : List Int) (h1 : SlC 3 1 u1 xs.length (iV xs) C1) (h2 : SlC 3 1 u2 ys.length (iV ys) C2) (hl : xs.length ≤ 1000000) :
    FnT Tryz.prog w0 21 #[u1, u2] (C1 :: C2 :: F) (fun v L' => v = .bool (decide (xs = ys)) ∧ L' = C1 :: C2 :: F) := by
  obtain ⟨p1, c1, hv1⟩ := h1.slice
  obtain ⟨p2, c2, hv2⟩ := h2.slice
  refine qh (E0 := [(0, _), (1, _)]) (N := 26) Tryz.func21 rfl rfl rfl rfl ?_
  refine qP <| qD rfl <| qF <| qO <| qP <| qB rfl <| q9 (wD (by rw [hv1]; rfl)) ?_
  refine qB rfl <| q9 (wD (by rw [hv2]; rfl)) ?_
  refine q9 (wz rfl rfl) <| qF <| qL rfl (fun hc1 => ?_) (fun hc1 => ?_)
  ·
   refine qP <| qD rfl <| qF <| qz <| w7 <| wF (C1 :: C2 :: F) (.inl rfl) rfl (qu rfl) ?_
   exact ⟨congrArg Value.bool (decide_eq_false (fun h : xs = ys => hc1 (by rw [h]))).symm, rfl⟩
  ·
   refine qZ <| qI <| qO <| qP <| qB rfl <| q9 (wD (by rw [hv1]; rfl)) ?_
   refine qB rfl <| qF <| qg <| wV (Γ := {pΓ : (Nat) // (fun (i : Nat) => i ≤ xs.length ∧ xs.take i = ys.take i) pΓ}) (fun g => (fun (i : Nat) => [(0, u1), (1, u2), (12, .int .i64 xs.length), (13, .int .i64 i)]) g.1) (fun g => (fun (i : Nat) => C1 :: C2 :: F) g.1) (fun g => (fun (i : Nat) => xs.length - i) g.1) ⟨0, by dsimp only; exact ⟨by omega, rfl⟩⟩ (qX _) ?_
   rintro ⟨i, hloop⟩
   replace hloop : i ≤ xs.length ∧ xs.take i = ys.take i := hloop
   obtain ⟨hi, he⟩ := hloop
   show Tr _ _ _ ([(0, u1), (1, u2), (12, .int .i64 xs.length), (13, .int .i64 i)]) (C1 :: C2 :: F) _ _
   refine qP <| q9 (wL rfl rfl) <| qF <| qO <| qL rfl (fun hc4 => ?_) (fun hc4 => ?_)
   ·
    refine qZ <| qI <| qO <| qg <| qP <| qB rfl <| qD rfl <| qF <| qO ?_
    obtain ⟨a, ha⟩ : ∃ a, xs[i]? = some a := ⟨_, List.getElem?_eq_getElem (by omega)⟩
    obtain ⟨b, hb⟩ : ∃ b, ys[i]? = some b := ⟨_, List.getElem?_eq_getElem (by omega)⟩
    rcases h1 with ⟨-, h0, -⟩ | ⟨bA, capA, spA, rfl, hcsA, rfl, hcapA, hncA⟩
    · omega
    rcases h2 with ⟨-, h0, -⟩ | ⟨bB, capB, spB, rfl, hcsB, rfl, hcapB, hncB⟩
    · omega
    refine wQ w8 <| wE [(16, .pure _), (17, .pure _), (18, .pure _), (19, .pure _), (20, .pure _), (21, .pure _), (22, .pure _), (23, .pure _)] (by kernel_rfl) rfl rfl rfl wd (qC rfl (fun X => qM rfl) <| qC rfl (fun X => qM rfl) <| qC rfl (fun X => qw (j := i) (off := i * 1) rfl rfl rfl (by omega) (by simp)) <| qC rfl (fun X => qH rfl (jW ha)) <| qC rfl (fun X => qM rfl) <| qC rfl (fun X => qM rfl) <| qC rfl (fun X => qw (j := i) (off := i * 1) rfl rfl rfl (by omega) (by simp)) <| qC rfl (fun X => qH rfl (jW hb)) <| ParH.nil rfl) ?_
    dsimp only [zQ, List.drop, List.length]
    refine qm (by kernel_rfl) (wz rfl rfl) ?_
    refine wI <| qI <| qL rfl (fun hc6 => ?_) (fun hc6 => ?_)
    ·
     refine qP <| qD rfl <| qF <| qz <| wN <| w7 <| kc <| wN <| w7 <| wF ([(bA, .cells (iV xs ++ spA).toArray 3 (0, 0))] :: [(bB, .cells (iV ys ++ spB).toArray 3 (0, 0))] :: F) (.inl rfl) rfl (qu rfl) ?_
     exact ⟨congrArg Value.bool (decide_eq_false (Mb ha hb hc6)).symm, rfl⟩
    ·
     refine qZ <| qf <| qI <| qK <| q9 (w9 rfl rfl (by omega)) <| qB rfl <| qT <| w5 ⟨i + 1, ?_⟩ ?_ ?_
     · (try dsimp only); exact ⟨by omega, Zk ha hb he (by omega)⟩
     · (try dsimp only); omega
     · (try dsimp only); exact qX _
   ·
    refine wb <| qr <| qt <| qj <| qI <| qP <| qD rfl <| qF <| qz <| wF (C1 :: C2 :: F) (.inl rfl) rfl (qu rfl) ?_
    rw [List.take_of_length_le (by omega), List.take_of_length_le (by omega)] at he
    exact ⟨congrArg Value.bool (decide_eq_true he).symm, rfl⟩
theorem equal_ok (u1 u2 : Value) (C1 C2 : qV) (xs ys : List Int) (h1 : SlC 5 1 u1 xs.length (u8s xs) C1) (h2 : SlC 5 1 u2 ys.length (u8s ys) C2) (hl : xs.length ≤ 1000000) :
    FnT Tryz.prog w0 30 #[u1, u2] (C1 :: C2 :: F) (fun v L' => v = .bool (decide (xs = ys)) ∧ L' = C1 :: C2 :: F) := by
  obtain ⟨p1, c1, hv1⟩ := h1.slice
  obtain ⟨p2, c2, hv2⟩ := h2.slice
  refine qh (E0 := [(0, _), (1, _)]) (N := 26) Tryz.func30 rfl rfl rfl rfl ?_
  refine qP <| qD rfl <| qF <| qO <| qP <| qB rfl <| q9 (wD (by rw [hv1]; rfl)) ?_
  refine qB rfl <| q9 (wD (by rw [hv2]; rfl)) ?_
  refine q9 (wz rfl rfl) <| qF <| qL rfl (fun hc1 => ?_) (fun hc1 => ?_)
  ·
   refine qP <| qD rfl <| qF <| qz <| w7 <| wF (C1 :: C2 :: F) (.inl rfl) rfl (qu rfl) ?_
   exact ⟨congrArg Value.bool (decide_eq_false (fun h : xs = ys => hc1 (by rw [h]))).symm, rfl⟩
  ·
   refine qZ <| qI <| qO <| qP <| qD rfl <| qF <| qg <| wV (Γ := {pΓ : (Nat) // (fun (i : Nat) => i ≤ xs.length ∧ xs.take i = ys.take i) pΓ}) (fun g => (fun (i : Nat) => [(0, u1), (1, u2), (5, .int .i64 i)]) g.1) (fun g => (fun (i : Nat) => C1 :: C2 :: F) g.1) (fun g => (fun (i : Nat) => xs.length - i) g.1) ⟨0, by dsimp only; exact ⟨by omega, rfl⟩⟩ (qX _) ?_
   rintro ⟨i, hloop⟩
   replace hloop : i ≤ xs.length ∧ xs.take i = ys.take i := hloop
   obtain ⟨hi, he⟩ := hloop
   show Tr _ _ _ ([(0, u1), (1, u2), (5, .int .i64 i)]) (C1 :: C2 :: F) _ _
   refine qO <| qP <| qB rfl <| qB rfl <| q9 (wD (by rw [hv1]; rfl)) ?_
   refine q9 (wL rfl rfl) <| qF <| qL rfl (fun hc4 => ?_) (fun hc4 => ?_)
   ·
    refine qZ <| qI <| qO <| qg <| qO ?_
    obtain ⟨a, ha⟩ : ∃ a, xs[i]? = some a := ⟨_, List.getElem?_eq_getElem (by omega)⟩
    obtain ⟨b, hb⟩ : ∃ b, ys[i]? = some b := ⟨_, List.getElem?_eq_getElem (by omega)⟩
    rcases h1 with ⟨-, h0, -⟩ | ⟨bA, capA, spA, rfl, hcsA, rfl, hcapA, hncA⟩
    · omega
    rcases h2 with ⟨-, h0, -⟩ | ⟨bB, capB, spB, rfl, hcsB, rfl, hcapB, hncB⟩
    · omega
    refine wQ w8 <| wE [(17, .pure _), (18, .pure _), (19, .pure _), (20, .pure _), (21, .pure _), (22, .pure _), (23, .pure _), (24, .pure _)] (by kernel_rfl) rfl rfl rfl wd (qC rfl (fun X => qM rfl) <| qC rfl (fun X => qM rfl) <| qC rfl (fun X => qw (j := i) (off := i * 1) rfl rfl rfl (by omega) (by simp)) <| qC rfl (fun X => qH rfl (show wX (u8s xs ++ spA) (i * 1) = some (.int .u8 a) by rw [zK, Nat.mul_one, List.getElem?_append_left (by simp [u8s]; omega)]; simp [u8s, ha])) <| qC rfl (fun X => qM rfl) <| qC rfl (fun X => qM rfl) <| qC rfl (fun X => qw (j := i) (off := i * 1) rfl rfl rfl (by omega) (by simp)) <| qC rfl (fun X => qH rfl (show wX (u8s ys ++ spB) (i * 1) = some (.int .u8 b) by rw [zK, Nat.mul_one, List.getElem?_append_left (by simp [u8s]; omega)]; simp [u8s, hb])) <| ParH.nil rfl) ?_
    dsimp only [zQ, List.drop, List.length]
    refine qm (by kernel_rfl) (wz rfl rfl) ?_
    refine wI <| qI <| qL rfl (fun hc6 => ?_) (fun hc6 => ?_)
    ·
     refine qP <| qD rfl <| qF <| qz <| wN <| w7 <| kc <| wN <| w7 <| wF ([(bA, .cells (u8s xs ++ spA).toArray 5 (0, 0))] :: [(bB, .cells (u8s ys ++ spB).toArray 5 (0, 0))] :: F) (.inl rfl) rfl (qu rfl) ?_
     exact ⟨congrArg Value.bool (decide_eq_false (Mb ha hb hc6)).symm, rfl⟩
    ·
     refine qZ <| qf <| qI <| qK <| qB rfl <| q9 (w9 rfl rfl (by omega)) <| qD rfl <| qT <| w5 ⟨i + 1, ?_⟩ ?_ ?_
     · (try dsimp only); exact ⟨by omega, Zk ha hb he (by omega)⟩
     · (try dsimp only); omega
     · (try dsimp only); exact qX _
   ·
    refine wb <| qr <| qt <| qj <| qI <| qP <| qD rfl <| qF <| qz <| wF (C1 :: C2 :: F) (.inl rfl) rfl (qu rfl) ?_
    rw [List.take_of_length_le (by omega), List.take_of_length_le (by omega)] at he
    exact ⟨congrArg Value.bool (decide_eq_true he).symm, rfl⟩
end
end Go.Proofs.YtjikpomndbkfgaaGreatDoor
namespace Go.Sx
open Go
section
variable {P : Program} {N : Nat} {w0 : World} {E : Env} {L : Res}
theorem run_equalIn_ptrNil {w : World} (n : Nat) (t e : TypeId) (p : Option Addr) (h : P.underlying t = some (.pointer e)) :
    (Op.equalIn (n + 1) t (.pointer p) (.pointer none)).run P w = .ok p.isNone w := by
  cases p <;> simp [Op.equalIn, wA h]
theorem run_neq_ptrNil {w : World} (t e : TypeId) (p : Option Addr) (h : P.underlying t = some (.pointer e)) :
    (binOp .neq t (.pointer p) (.pointer none)).run P w = .ok (.bool !p.isNone) w := by
  simp only [binOp]
  simp [show Op.equal t (.pointer p) (.pointer none) = Op.equalIn (9999 + 1) t (.pointer p) (.pointer none) from rfl, run_equalIn_ptrNil 9999 t e p h]
theorem op_neqPtrNil {x y : Operand} {t yt ty e : TypeId} {p : Option Addr} (hx : opv E x = some (.pointer p)) (hy : opv E y = some (.pointer none)) (h : P.underlying t = some (.pointer e)) : Op1 P N w0 E L (.binOp .neq t x y yt) ty (.bool !p.isNone) L :=
  .of_run fun o a w h1 _ h3 h4 => ⟨w, by
    have hg : (eqGuard .neq t x y (.pointer p) (.pointer none)).run P w = .ok () w := rfl
    rw [execOp, h1]
    simp only [Sem.run_bind, h3.eval hx, h3.eval hy, hg, Result.andThen_ok, run_neq_ptrNil t e p h]
    rfl, h4⟩
end
end Go.Sx
namespace Go.Proofs.YtjikpomndbkfgaaGreatDoor
open Go Go.Sx Go.Nd
set_option maxRecDepth 10000
section
variable {w0 : World} {L F : Res} {ba bl : Nat}
theorem ref_num {W : RS} {v : List Value} {C : qV} (h : RefC ba bl W v C) : wX v 0 = some (.int .u32 W.num) := by
  obtain ⟨ug, Cg, rfl, -, -⟩ := h; rfl
theorem ref_ver {W : RS} {v : List Value} {C : qV} (h : RefC ba bl W v C) : wX v 1 = some (.int .u32 W.ver) := by
  obtain ⟨ug, Cg, rfl, -, -⟩ := h; rfl
theorem ZU {W : RS} {v : List Value} {C : qV} (h : RefC ba bl W v C) : wX v 11 = some (.int .i64 W.self.at_) := by
  obtain ⟨ug, Cg, rfl, -, -⟩ := h; rfl
theorem YZ (x p md : Nat) (v : List Value) (nx : Int) (dn : Bool) (od : Obj) (W : RS) (C : qV) (hw : RefC ba bl W v C) (k : Int × Int) :
    FnT Tryz.prog w0 32 #[.pointer (some ⟨x, 0, none⟩), .agg (zP k).toArray] (StD x p v md nx dn od :: F) (fun v' L' => v' = .agg (Qg W.num W.ver k).toArray ∧ L' = StD x p v md nx dn od :: F) := by
  rw [show zP k = [.int .i64 k.1, .int .i64 k.2] from rfl]
  have hv := hw.len
  refine qh (E0 := [(0, _), (1, _)]) (N := 20) Tryz.func32 rfl rfl rfl rfl ?_
  refine qP <| qG (wq rfl) ?_
  rintro t3 _ ⟨b3, rfl, rfl⟩
  refine qG (qn) ?_
  rintro t4 _ ⟨b4, rfl, rfl⟩
  refine qF <| qO <| wQ w8 <| wE [(5, .pure _), (6, .pure _), (7, .pure _), (8, .pure _), (9, .pure _), (10, .pure _), (11, .pure _), (12, .pure _), (13, .pure _), (14, .pure _), (15, .pure _), (16, .pure _), (17, .pure _), (18, .pure _)] (by kernel_rfl) rfl rfl rfl wd (qC rfl (fun X => qA rfl) <| qC rfl (fun X => qH rfl rfl) <| qC rfl (fun X => qM rfl) <| qC rfl (fun X => qQ rfl) <| qC rfl (fun X => qA rfl) <| qC rfl (fun X => w6 rfl) <| qC rfl (fun X => qH rfl ((YO hv (by decide)).trans (ref_num hw))) <| qC rfl (fun X => qM rfl) <| qC rfl (fun X => qQ rfl) <| qC rfl (fun X => qA rfl) <| qC rfl (fun X => w6 rfl) <| qC rfl (fun X => qH rfl ((YO hv (by decide)).trans (ref_ver hw))) <| qC rfl (fun X => qA rfl) <| qC rfl (fun X => qH rfl rfl) <| ParH.nil rfl) ?_
  dsimp only [zQ, List.drop, List.length]
  refine qm (by kernel_rfl) (wa rfl) ?_
  refine yU (by kernel_rfl) (wj rfl rfl rfl rfl) ?_
  refine wI <| qI <| qz <| wF (StD x p v md nx dn od :: F) (.inl rfl) rfl (za rfl) ?_
  exact ⟨rfl, rfl⟩
theorem VF (G : qV) (hg : kn G) : FnT Tryz.prog w0 7 #[.int .i64 0] (G :: F) (fun v' L' => ∃ x p md ba bl v C Cn od, v' = .tuple #[.pointer (some ⟨x, 0, none⟩), .bool true] ∧ NodeC p (Zv 3 7 1) Cn ∧ RefC ba bl (Wj 3 7 1) v C ∧
      MapF (Value.int .i64) jH (fun _ => none) od ∧ L' = StD x p v md 100 false od :: Cn :: C :: G :: F) := by
  refine qh (E0 := [(0, _)]) (N := 21) Tryz.func7 rfl rfl rfl rfl ?_
  refine qP <| qD rfl <| qD rfl <| qo <| qB rfl <| q9 (xm rfl rfl) ?_
  rw [show zH .and .i64 0 1 = 0 from by decide]
  refine q9 (w9 rfl rfl (by omega)) <| qD rfl <| qF <| zb (Γ := {pΓ : (Nat) × (Nat) × (Nat) × (Nat) × (Nat) × (List Value) × (qV) × (qV) × (Obj) // (fun (x : Nat) (p : Nat) (md : Nat) (ba : Nat) (bl : Nat) (v : List Value) (C : qV) (Cn : qV) (od : Obj) => NodeC p (Zv 3 7 1) Cn ∧ RefC ba bl (Wj 3 7 1) v C ∧ MapF (Value.int .i64) jH (fun _ => none) od) pΓ.1 pΓ.2.1 pΓ.2.2.1 pΓ.2.2.2.1 pΓ.2.2.2.2.1 pΓ.2.2.2.2.2.1 pΓ.2.2.2.2.2.2.1 pΓ.2.2.2.2.2.2.2.1 pΓ.2.2.2.2.2.2.2.2}) (fun g => (fun (x : Nat) (p : Nat) (md : Nat) (ba : Nat) (bl : Nat) (v : List Value) (C : qV) (Cn : qV) (od : Obj) => [(4, .pointer (some ⟨x, 0, none⟩))]) g.1.1 g.1.2.1 g.1.2.2.1 g.1.2.2.2.1 g.1.2.2.2.2.1 g.1.2.2.2.2.2.1 g.1.2.2.2.2.2.2.1 g.1.2.2.2.2.2.2.2.1 g.1.2.2.2.2.2.2.2.2) (fun g => (fun (x : Nat) (p : Nat) (md : Nat) (ba : Nat) (bl : Nat) (v : List Value) (C : qV) (Cn : qV) (od : Obj) => StD x p v md 100 false od :: Cn :: C :: G :: F) g.1.1 g.1.2.1 g.1.2.2.1 g.1.2.2.2.1 g.1.2.2.2.2.1 g.1.2.2.2.2.2.1 g.1.2.2.2.2.2.2.1 g.1.2.2.2.2.2.2.2.1 g.1.2.2.2.2.2.2.2.2) ?_ ?_
  ·
   refine qK <| qB rfl <| qG (qx rfl (wc (G) (MJ G hg 3 7 1))) ?_
   rintro t9 _ ⟨p, Cn, rfl, hn, rfl⟩
   refine qB rfl <| qG (qx rfl (rnew_ok 3 7 1)) ?_
   rintro t11 _ ⟨ba, bl, l, C, rfl, hr, rfl⟩
   obtain ⟨ug, Cg, hlv, hsg, hC⟩ := id hr
   rw [hlv]
   unfold kV
   refine qG (ki) ?_
   rintro t12 _ ⟨b12, rfl, rfl⟩
   refine q9 (wa rfl) <| qG (wq rfl) ?_
   rintro t14 _ ⟨b14, rfl, rfl⟩
   refine qD rfl <| qT <| qW ⟨(b14, p, b12, ba, bl, l, C, Cn, .map #[] 0), ?_⟩ ?_
   · (try dsimp only); exact ⟨hn, hr, kk _ _⟩
   · (try dsimp only); exact (by rw [hlv]; simp only [StD, stV, kV, List.cons_append, List.nil_append]; exact (yV (by intro f; simp only [List.flatten_cons, List.flatten_nil, List.append_nil, List.countP_append, List.countP_cons, List.countP_nil]; omega)))
  rintro ⟨⟨x, p, md, ba, bl, v, C, Cn, od⟩, hcut⟩
  replace hcut : NodeC p (Zv 3 7 1) Cn ∧ RefC ba bl (Wj 3 7 1) v C ∧ MapF (Value.int .i64) jH (fun _ => none) od := hcut
  obtain ⟨hn, hr, hD⟩ := hcut
  show Tr _ _ _ ([(4, .pointer (some ⟨x, 0, none⟩))]) (StD x p v md 100 false od :: Cn :: C :: G :: F) _ _
  refine qO <| wQ w8 <| wE [(15, .pure _), (16, .pure _), (17, .pure _), (18, .pure _), (19, .pure _), (20, .pure _), (2, .pure _)] (by kernel_rfl) rfl rfl rfl wd (qC rfl (fun X => qM rfl) <| qC rfl (fun X => qM rfl) <| qC rfl (fun X => qQ rfl) <| qC rfl (fun X => qA rfl) <| qC rfl (fun X => qH rfl rfl) <| qC rfl (fun X => op_neqPtrNil rfl rfl Tryz.underlying33) <| qC rfl (fun X => z8 rfl) <| ParH.nil rfl) ?_
  dsimp only [zQ, List.drop, List.length]
  refine qm (by kernel_rfl) (z8 rfl) ?_
  refine wI <| qI <| qz <| W5 (.inl rfl) rfl (qu rfl) (qu rfl) ?_
  exact ⟨x, p, md, ba, bl, v, C, Cn, od, rfl, hn, hr, hD, rfl⟩
end
end Go.Proofs.YtjikpomndbkfgaaGreatDoor
namespace Go.Sx
open Go
section
variable {P : Program} {N : Nat} {w0 : World} {E : Env} {L : Res}
theorem ZZ {x y : Operand} {t t' ty e sz by_ n m : Nat} {v yv : Value} {cs ys : List Value} {C : qV} {F : Res} {z : Value} {dt' : TypeDesc} [ht : y8 P t e] [hsz : TySize P e sz] [hb : TyBytes P e by_] [hz : TyZero P e z]
    (hx : opv E x = some v) (hy : opv E y = some yv) [ht1 : Take1 L C F] (hs : SlC e sz v n cs C) (hr : Reads w0 L yv m sz ys) (h1 : ys.all (·.oneCell') = true)
    (ht' : P.underlying t' = some dt') (hdt : XQ dt' = false) (hzs : z.cells.size = sz) (hroom : (n + m) * by_ ≤ 140737488355328) (hby : Nat.ble 1 by_ = true := by rfl) :
    OpT P N w0 E L (.call ⟨.builtin .append, #[x, y], #[t, t']⟩) ty (fun v' L' => ∃ C' X C2, SlC e sz v' (n + m) (cs ++ ys) C' ∧ SlC e sz v n cs C2 ∧ (∀ (w0 : World) (F : Res) (w : World), Own w0 (C' :: X :: F) w → Own w0 (C2 :: F) w) ∧ L' = C' :: X :: F) :=
  .of_runE fun o a w e1 _ h3 h4 => by
    obtain ⟨cc, h5⟩ := ya (P := P) (w := w) (vs := [v, yv]) h3 (by simp [ji, hx, hy]) e1
    have hown : Own w0 (C :: F) w := h4.perm ht1.perm
    have hby' : 1 ≤ by_ := Nat.le_of_ble_eq_true hby
    obtain ⟨p, c, hyv, hylen, hyr⟩ := hr.h
    have hfc : ∀ d, (Builtin.firstCells sz m yv).run P { w with drawn := d } = .ok ys.toArray { w with drawn := d } := fun d => hr.firstCells (h4.draw0 d) (fun h => by
      rw [hyv] at h; cases h
      rcases hyr with h | ⟨_, _, _, _, _, h, _⟩
      · exact h
      · cases h)
    have hlen : (Builtin.lenOf yv).run P w = .ok m w := by rw [hyv]; simp [Builtin.lenOf]
    have happ : ∀ (s : Value), (builtin .append #[t, t'] o.type cc #[s, yv]).run P w = ((Builtin.append_ #[t, t'] o.type #[s, yv]).run P w).andThen fun v w' => .ok (.value v) w' := fun s => by simp [builtin]
    have h5' : (execOp a.eval o).run P w = ((Builtin.append_ #[t, t'] o.type #[v, yv]).run P w).andThen fun v w' => .ok (.value v) w' := by rw [h5]; exact happ v
    have grown : ∀ (q : Option Addr) (cap : Nat), v = .slice q n cap → (∀ d, (Builtin.firstCells sz n v).run P { w with drawn := d } = .ok cs.toArray { w with drawn := d }) → ¬ n + m ≤ cap → cs.length = n * sz →
        ∃ v' L' w', (execOp a.eval o).run P w = .ok (.value v') w' ∧ (∃ C' X C2, SlC e sz v' (n + m) (cs ++ ys) C' ∧ SlC e sz v n cs C2 ∧ (∀ (w0 : World) (F : Res) (w : World), Own w0 (C' :: X :: F) w → Own w0 (C2 :: F) w) ∧ L' = C' :: X :: F) ∧ Own w0 L' w' := by
      intro q cap hv hold hgt hcs
      obtain ⟨nc, d, hle, hdd, hrun⟩ := WT (ty := o.type) (cs := cs) (ys := ys) ht.h hsz.s hb hz.h ht' hdt hlen q hgt hroom hby' (fun d => by rw [← hv]; exact hold d) hfc
      refine ⟨_, [(w.heap.size, .cells (cs.toArray ++ ys.toArray ++ Builtin.zeroCells z.cells (nc - (n + m))) e (0, 0))] :: C :: F, _, by rw [h5', hv, hrun]; rfl, ⟨_, C, C, .inr ⟨w.heap.size, nc, (Builtin.zeroCells z.cells (nc - (n + m))).toList, rfl, by rw [List.length_append, hcs, hylen, Nat.add_mul], by simp, ?_, hle⟩, hs, fun _ _ _ h => h.tail, rfl⟩, ?_⟩
      · simp only [List.length_append, hcs, hylen, Array.length_toList, x7, hzs]
        rw [← Nat.add_mul, ← Nat.add_mul]
        congr 1
        omega
      · have := (hown.draw d hdd).alloc (.cells (cs.toArray ++ ys.toArray ++ Builtin.zeroCells z.cells (nc - (n + m))) e (0, 0))
        exact this
    rcases id hs with ⟨rfl, rfl, rfl, rfl⟩ | ⟨b, cap, spare, rfl, hcs, rfl, hcap, hnc⟩
    · by_cases hm : 0 + m ≤ 0
      · have hm0 : m = 0 := by omega
        subst hm0
        have hys : ys = [] := List.length_eq_zero_iff.1 (by rw [hylen]; simp)
        subst hys
        have hrun := js (ty := o.type) (w := w) (n := 0) (cap := 0) (p := none) ht.h hsz.s ht' hdt hlen (hfc w.drawn) (by omega)
        exact ⟨_, _, w, by rw [h5', hrun]; rfl, ⟨[], [], [], .inl ⟨rfl, rfl, rfl, rfl⟩, hs, fun _ _ _ h => h.tail, rfl⟩, we (by simp) w hown⟩
      · exact grown none 0 rfl (fun d => by simp [Builtin.firstCells]) hm (by simp)
    · by_cases hm : n + m ≤ cap
      · have hrun := js (ty := o.type) (w := w) (p := some ⟨b, 0, none⟩) ht.h hsz.s ht' hdt hlen (hfc w.drawn) hm
        have hfit : n * sz + ys.length ≤ (cs ++ spare).length := by
          rw [hcap, hylen, ← Nat.add_mul]
          exact Nat.mul_le_mul_right _ hm
        obtain ⟨w', h6, h7⟩ := jZ (P := P) (off := n * sz) (vs := ys) (l := cs ++ spare) hown (At.head b _ F) rfl hfit h1
        have hcells : (cs ++ spare).take (n * sz) ++ ys ++ (cs ++ spare).drop (n * sz + ys.length) = cs ++ ys ++ spare.drop ys.length := by
          rw [← hcs, List.take_left, List.drop_append]
          simp [List.drop_of_length_le]
        rw [hcells] at h7
        refine ⟨_, _, w', ?_, ⟨[(b, .cells (cs ++ ys ++ spare.drop ys.length).toArray e (0, 0))], [], [(b, .cells (cs ++ ys ++ spare.drop ys.length).toArray e (0, 0))], .inr ⟨b, cap, spare.drop ys.length, rfl, by rw [List.length_append, hcs, hylen, Nat.add_mul], rfl, ?_, hm⟩, .inr ⟨b, cap, ys ++ spare.drop ys.length, rfl, hcs, by rw [List.append_assoc], ?_, hnc⟩, fun _ _ _ h => we (by simp) _ h, rfl⟩, we (by simp) w' h7⟩
        · rw [h5', hrun]
          simp only [yl, Nat.zero_add, h6, Result.andThen_ok]
        · simp only [List.length_append] at hcap hfit
          simp only [List.length_append, List.length_drop]
          omega
        · simp only [List.length_append] at hcap hfit
          simp only [List.length_append, List.length_drop]
          omega
      · refine grown (some ⟨b, 0, none⟩) cap rfl (fun d => ?_) hm hcs
        simp only [Builtin.firstCells]
        exact KF (w := { w with drawn := d }) ((hown.draw0 d).get (At.head b _ F)) (by simp [← hcs]) hcs
end
end Go.Sx
namespace Go.Proofs.YtjikpomndbkfgaaGreatDoor
open Go Go.Sx Go.Nd
set_option maxRecDepth 10000
section
variable {w0 : World} {L F : Res} {ba bl : Nat}
def jX (nx : Int) (m : Nat) : List Int := (List.range m).map fun i : Nat => nx + i
theorem ZD (nx : Int) (m : Nat) : (jX nx m).length = m := by simp [jX]
theorem atsOf_succ (nx : Int) (m : Nat) : jX nx (m + 1) = jX nx m ++ [nx + m] := by simp [jX, List.range_succ]
theorem Ju (nx : Int) {m i : Nat} (h : i < m) : (jX nx m)[i]? = some (nx + i) := by simp [jX, h]
theorem Jt {nx : Int} {m : Nat} (h1 : 1 ≤ nx) (h2 : nx + m ≤ 65536) : ∀ a ∈ jX nx m, 1 ≤ a ∧ a ≤ 65535 := by
  intro a ha
  obtain ⟨i, hi, rfl⟩ := List.mem_map.1 ha
  have := List.mem_range.1 hi
  omega
def xq (f : Int × Int → Sec) (D : Int → Option Sec) (l : List ((Int × Int) × Int)) : Int → Option Sec := l.foldl (fun D p => upd D p.2 (some (f p.1))) D
def QW (D : Int → Option Sec) (l : List Int) : Int → Option Sec := l.foldl (fun D g => upd D g none) D
theorem putR_num (W : RS) (k : Int × Int) (a : Int) : (kW W k a).num = W.num ∧ (kW W k a).ver = W.ver ∧ (kW W k a).kind = W.kind ∧ (kW W k a).size = W.size ∧ (kW W k a).time = W.time ∧ (kW W k a).gone = W.gone := by
  unfold kW; split <;> first | exact ⟨rfl, rfl, rfl, rfl, rfl, rfl⟩ | (split <;> first | exact ⟨rfl, rfl, rfl, rfl, rfl, rfl⟩ | (split <;> first | exact ⟨rfl, rfl, rfl, rfl, rfl, rfl⟩ | (split <;> exact ⟨rfl, rfl, rfl, rfl, rfl, rfl⟩)))
theorem WM : ∀ (l : List (Int × Int)) (bs : List Int) (s : RS × List Int), (zO l bs s).1.num = s.1.num ∧ (zO l bs s).1.ver = s.1.ver ∧ (zO l bs s).1.kind = s.1.kind ∧ (zO l bs s).1.size = s.1.size ∧ (zO l bs s).1.time = s.1.time := by
  intro l
  induction l with
  | nil => intro bs s; rw [jg]; exact ⟨rfl, rfl, rfl, rfl, rfl⟩
  | cons k l ih =>
    intro bs s
    cases bs with
    | nil => exact ⟨rfl, rfl, rfl, rfl, rfl⟩
    | cons a bs =>
      rw [zO]
      have h := ih bs (kW s.1 k a, if qy s.1 k ≠ 0 then s.2 ++ [qy s.1 k] else s.2)
      have h2 := putR_num s.1 k a
      refine ⟨h.1.trans h2.1, h.2.1.trans h2.2.1, h.2.2.1.trans h2.2.2.1, h.2.2.2.1.trans h2.2.2.2.1, h.2.2.2.2.trans h2.2.2.2.2.1⟩
theorem commitR_num (W : RS) (bs : List Int) : (zE W bs).num = W.num ∧ (zE W bs).ver = W.ver ∧ (zE W bs).kind = W.kind ∧ (zE W bs).size = W.size ∧ (zE W bs).time = W.time := WM (zh W) bs (W, W.gone)
theorem commitFR_len : ∀ (l : List (Int × Int)) (bs : List Int) (s : RS × List Int), (zO l bs s).2.length ≤ s.2.length + l.length := by
  intro l
  induction l with
  | nil => intro bs s; rw [jg]; simp
  | cons k l ih =>
    intro bs s
    cases bs with
    | nil => simp [zO]
    | cons a bs =>
      rw [zO]
      refine Nat.le_trans (ih _ _) ?_
      dsimp only
      split
      · simp; omega
      · simp
theorem zip_step {A B : Type} {l : List A} {m : List B} {i : Nat} {a : A} {b : B} (h1 : l[i]? = some a) (h2 : m[i]? = some b) : (l.zip m).take (i + 1) = (l.zip m).take i ++ [(a, b)] := by
  rw [List.take_add_one, show (l.zip m)[i]? = some (a, b) from by rw [List.getElem?_zip_eq_some]; exact ⟨h1, h2⟩]; rfl
theorem putDs_step {f : Int × Int → Sec} {D : Int → Option Sec} {l : List (Int × Int)} {m : List Int} {i : Nat} {k : Int × Int} {b : Int} (h1 : l[i]? = some k) (h2 : m[i]? = some b) :
    xq f D ((l.zip m).take (i + 1)) = upd (xq f D ((l.zip m).take i)) b (some (f k)) := by
  rw [zip_step h1 h2]; unfold xq; rw [List.foldl_append]; rfl
theorem delDs_step {D : Int → Option Sec} {l : List Int} {i : Nat} {g : Int} (h : l[i]? = some g) : QW D (l.take (i + 1)) = upd (QW D (l.take i)) g none := by
  rw [List.take_add_one, h]; unfold QW; rw [List.foldl_append]; rfl
theorem Kr (H : jJ w0) (HP : xo) (x p md : Nat) (v : List Value) (nx : Int) (dn : Bool) (od : Obj) (n : NS) (W : RS) (D : Int → Option Sec) (Cn C G : qV) (l : List (Int × Int)) (ats : List Int)
    (hl : zh W = l) (hats : ats = jX nx l.length)
    (hn : NodeC p n Cn) (hw : RefC ba bl W v C) (hD : MapF (Value.int .i64) jH D od) (hg : kn G) (hok : NOk n) (hfl : NFl n) (hpp : yE n = l) (hnum : n.num = W.num) (hver : n.ver = W.ver)
    (hnx1 : 1 ≤ nx) (hnx2 : nx + l.length ≤ 65536) (hgn : n.gone.length ≤ 800000) (hgl : W.gone.length ≤ 800000) (hr : ∀ a ∈ ats, 1 ≤ a ∧ a ≤ 65535) (hrok : ROk (yu W ats))
    (hsec : ∀ k ∈ l, yi (Wk n ats) (xz hok hr) (WH hfl ats) k = zB (yu W ats) k)
    (hdead : srt (xi n ats) = srt (xh W ats)) :
    FnT Tryz.prog w0 14 #[.pointer (some ⟨x, 0, none⟩)] (StD x p v md nx dn od :: Cn :: C :: G :: F) (fun r L' => r = .bool true ∧ ∃ v' C' Cn' od', NodeC p (Q3 n ats) Cn' ∧ RefC ba bl (zE W ats) v' C' ∧
      MapF (Value.int .i64) jH (QW (xq (zB (yu W ats)) D (l.zip ats)) (srt (xh W ats))) od' ∧ L' = StD x p v' md (nx + l.length) dn od' :: Cn' :: C' :: G :: F) := by
  have hv := hw.len
  have hll : l.length ≤ 1100 := hl ▸ x5 W
  have hal : ats.length = l.length := by rw [hats, ZD]
  have hatg : ∀ i : Nat, i < l.length → ats[i]? = some (nx + i) := fun i hi => by rw [hats]; exact Ju nx hi
  have hcm := commitR_num W ats
  have hdl : (srt (xh W ats)).length ≤ 801100 := by
    rw [Z5]
    refine Nat.le_trans (commitFR_len _ _ _) ?_
    rw [hl]; dsimp only; omega
  have hdl2 : (srt (xi n ats)).length ≤ 801100 := hdead ▸ hdl
  obtain ⟨f, hf⟩ : ∃ f, zB (yu W ats) = f := ⟨_, rfl⟩
  have hflat : l.flatMap (fun k => kZ n.num n.ver k (yi (Wk n ats) (xz hok hr) (WH hfl ats) k)) = l.flatMap (fun k => kZ W.num W.ver k (f k)) := by
    rw [hnum, hver]
    have : ∀ m : List (Int × Int), (∀ k ∈ m, k ∈ l) → m.flatMap (fun k => kZ W.num W.ver k (yi (Wk n ats) (xz hok hr) (WH hfl ats) k)) = m.flatMap (fun k => kZ W.num W.ver k (f k)) := by
      intro m
      induction m with
      | nil => intro _; rfl
      | cons k m ih =>
        intro hm
        rw [List.flatMap_cons, List.flatMap_cons, ih (fun q hq => hm q (by simp [hq])), hsec k (hm k (by simp)), hf]
    exact this l (fun _ h => h)
  rw [hf]
  refine qh (E0 := [(0, _)]) (N := 155) Tryz.func14 rfl rfl rfl rfl ?_
  refine qP <| qD rfl <| qo <| qD rfl <| qF <| qO <| qP <| qB rfl <| q9 (qQ rfl) <| q9 (qA rfl) <| q9 (zZ (r := v) rfl (kT hv) hv) <| qG (qx rfl (wc (C) (xb W v C hw))) ?_
  rintro t22 _ ⟨Cp, hsp, rfl⟩
  rw [hl] at hsp
  obtain ⟨pp, cp, rfl⟩ := hsp.slice
  refine q9 (wD rfl) <| qB rfl <| qF <| qg <| wV (Γ := {pΓ : (Nat) × (Value) × (qV) // (fun (i : Nat) (us : Value) (Ca : qV) => i ≤ l.length ∧ SlC 3 1 us i (iV (jX nx i)) Ca) pΓ.1 pΓ.2.1 pΓ.2.2}) (fun g => (fun (i : Nat) (us : Value) (Ca : qV) => [(0, .pointer (some ⟨x, 0, none⟩)), (3, us), (23, .int .i64 l.length), (24, .int .i64 i)]) g.1.1 g.1.2.1 g.1.2.2) (fun g => (fun (i : Nat) (us : Value) (Ca : qV) => Ca :: StD x p v md (nx + i) dn od :: Cn :: C :: G :: F) g.1.1 g.1.2.1 g.1.2.2) (fun g => (fun (i : Nat) (us : Value) (Ca : qV) => l.length - i) g.1.1 g.1.2.1 g.1.2.2) ⟨(0, .slice none 0 0, []), by dsimp only; exact ⟨by omega, SlC.nil _ _⟩⟩ ((by dsimp only; rw [show nx + ((0 : Nat) : Int) = nx from by omega]; exact qX _)) ?_
  rintro ⟨⟨i, us, Ca⟩, hloop⟩
  replace hloop : i ≤ l.length ∧ SlC 3 1 us i (iV (jX nx i)) Ca := hloop
  obtain ⟨hi, hsa⟩ := hloop
  show Tr _ _ _ ([(0, .pointer (some ⟨x, 0, none⟩)), (3, us), (23, .int .i64 l.length), (24, .int .i64 i)]) (Ca :: StD x p v md (nx + i) dn od :: Cn :: C :: G :: F) _ _
  refine qP <| q9 (wL rfl rfl) <| qF <| qO <| qL rfl (fun hc3 => ?_) (fun hc3 => ?_)
  ·
   refine qZ <| qI <| qO <| qg <| qP <| qB rfl <| qB rfl <| q9 (qQ rfl) <| q9 (qA rfl) <| q9 (qH rfl (MZ hv)) <| qG (wK rfl rfl rfl) ?_
   rintro t31 _ ⟨b31, rfl, rfl⟩
   refine qG (wg (m := 1) (sz := 1) rfl rfl hsa (wi (ys := iV [nx + i]) inferInstance rfl rfl) rfl Tryz.underlying39 rfl rfl (by omega)) ?_
   rintro t32 _ ⟨C', hs', rfl⟩
   refine qD rfl <| qF <| qK <| qB rfl <| q9 (qQ rfl) <| q9 (qA rfl) <| q9 (qH rfl (MZ hv)) <| q9 (w9 rfl rfl (by omega)) <| q9 (qQ rfl) <| q9 (qA rfl) <| qS (yA rfl rfl (by rw [ja hv]; decide) rfl) ?_
   refine qT ?_
   rw [stV_sn hv]
   refine qf <| qI <| qK <| q9 (w9 rfl rfl (by omega)) <| qB rfl <| qT <| w5 ⟨(i + 1, t32, C'), ?_⟩ ?_ ?_
   · (try dsimp only); exact ⟨by omega, by rw [atsOf_succ]; simpa [iV] using hs'⟩
   · (try dsimp only); omega
   · (try dsimp only); exact (by rw [show nx + ((i + 1 : Nat) : Int) = nx + i + 1 from by omega]; exact qX _)
  ·
   obtain rfl : i = l.length := by omega
   rw [← hats] at hsa
   refine wb <| qr <| qt <| qj <| qI <| qO <| zb (Γ := {pΓ : (Int) × (qV) // (fun (e : Int) (Ca2 : qV) => e = 1 ∧ SlC 3 1 us l.length (iV ats) Ca2) pΓ.1 pΓ.2}) (fun g => (fun (e : Int) (Ca2 : qV) => [(0, .pointer (some ⟨x, 0, none⟩)), (3, us), (6, .int .i64 e)]) g.1.1 g.1.2) (fun g => (fun (e : Int) (Ca2 : qV) => Ca2 :: StD x p v md (nx + l.length) dn od :: Cn :: C :: G :: F) g.1.1 g.1.2) ?_ ?_
   ·
    refine yT w8 (show TrS _ _ _ _ [false, false, false, false, false, false, false, false, false, false, false, false, false, false, false] _ _ _ from ?_)
    refine qJ 0 rfl rfl rfl (wP rfl) <| qJ 1 rfl rfl rfl (zw rfl) <| qJ 2 rfl rfl rfl (wn rfl) <| qJ 4 rfl rfl rfl (wP rfl) <| wy (i := 3) (j := 5) (by kernel_rfl) rfl ?_ ?_
    ·
     refine qe rfl rfl rfl (qH rfl jL) <| qR 5 rfl <| wB rfl rfl rfl (wK rfl rfl rfl) ?_
     rintro t47 _ ⟨b47, rfl, rfl⟩
     refine qR 6 rfl <| wB rfl rfl rfl (ZZ (m := 1) (sz := 1) rfl rfl hsa (wi (ys := iV [5]) inferInstance rfl rfl) rfl Tryz.underlying39 rfl rfl (by omega)) ?_
     rintro t48 _ ⟨C', X, Ca2, hs', hsa2, hX, rfl⟩
     have hs2 : SlC 3 1 t48 (ats ++ [5]).length (iV (ats ++ [5])) C' := by rw [List.length_append, hal]; simpa [iV] using hs'
     refine qR 7 rfl <| qe rfl rfl rfl (wJ rfl (Xb (Cn) (G) (C') (Qi H HP p n Cn G C' hn hg hok t48 (ats ++ [5]) hs2 (by rw [hpp, List.length_append, hal]; simp) (by rw [List.length_append, hal]; simp; omega)))) ?_
     refine qJ 8 rfl rfl rfl (wP rfl) <| qJ 9 rfl rfl rfl (qv rfl rfl) <| qJ 10 rfl rfl rfl (qv rfl rfl) <| qJ 11 rfl rfl rfl (qv rfl rfl) <| qJ 12 rfl rfl rfl (wM rfl) <| qJ 13 rfl rfl rfl (wM rfl) <| qJ 14 rfl rfl rfl (wM rfl) <| wG <| qW ⟨(1, Ca2), ?_⟩ ?_
     · (try dsimp only); exact ⟨rfl, hsa2⟩
     · (try dsimp only); exact (fun w hw => hX _ _ w (qX (C' :: X :: StD x p v md (nx + l.length) dn od :: Cn :: C :: G :: F) w hw))
    ·
     refine wB rfl rfl rfl (wK rfl rfl rfl) ?_
     rintro t47 _ ⟨b47, rfl, rfl⟩
     refine wy (i := 3) (j := 6) (by kernel_rfl) rfl ?_ ?_
     ·
      refine qe rfl rfl rfl (qH rfl jL) <| qR 6 rfl <| wB rfl rfl rfl (ZZ (m := 1) (sz := 1) rfl rfl hsa (wi (ys := iV [5]) inferInstance rfl rfl) rfl Tryz.underlying39 rfl rfl (by omega)) ?_
      rintro t48 _ ⟨C', X, Ca2, hs', hsa2, hX, rfl⟩
      have hs2 : SlC 3 1 t48 (ats ++ [5]).length (iV (ats ++ [5])) C' := by rw [List.length_append, hal]; simpa [iV] using hs'
      refine qR 7 rfl <| qe rfl rfl rfl (wJ rfl (Xb (Cn) (G) (C') (Qi H HP p n Cn G C' hn hg hok t48 (ats ++ [5]) hs2 (by rw [hpp, List.length_append, hal]; simp) (by rw [List.length_append, hal]; simp; omega)))) ?_
      refine qJ 8 rfl rfl rfl (wP rfl) <| qJ 9 rfl rfl rfl (qv rfl rfl) <| qJ 10 rfl rfl rfl (qv rfl rfl) <| qJ 11 rfl rfl rfl (qv rfl rfl) <| qJ 12 rfl rfl rfl (wM rfl) <| qJ 13 rfl rfl rfl (wM rfl) <| qJ 14 rfl rfl rfl (wM rfl) <| wG <| qW ⟨(1, Ca2), ?_⟩ ?_
      · (try dsimp only); exact ⟨rfl, hsa2⟩
      · (try dsimp only); exact (fun w hw => hX _ _ w (qX (C' :: X :: StD x p v md (nx + l.length) dn od :: Cn :: C :: G :: F) w hw))
     ·
      refine wB rfl rfl rfl (ZZ (m := 1) (sz := 1) rfl rfl hsa (wi (ys := iV [5]) inferInstance rfl rfl) rfl Tryz.underlying39 rfl rfl (by omega)) ?_
      rintro t48 _ ⟨C', X, Ca2, hs', hsa2, hX, rfl⟩
      have hs2 : SlC 3 1 t48 (ats ++ [5]).length (iV (ats ++ [5])) C' := by rw [List.length_append, hal]; simpa [iV] using hs'
      refine qR 3 rfl <| qe rfl rfl rfl (qH rfl jL) <| qR 7 rfl <| qe rfl rfl rfl (wJ rfl (Xb (Cn) (G) (C') (Qi H HP p n Cn G C' hn hg hok t48 (ats ++ [5]) hs2 (by rw [hpp, List.length_append, hal]; simp) (by rw [List.length_append, hal]; simp; omega)))) ?_
      refine qJ 8 rfl rfl rfl (wP rfl) <| qJ 9 rfl rfl rfl (qv rfl rfl) <| qJ 10 rfl rfl rfl (qv rfl rfl) <| qJ 11 rfl rfl rfl (qv rfl rfl) <| qJ 12 rfl rfl rfl (wM rfl) <| qJ 13 rfl rfl rfl (wM rfl) <| qJ 14 rfl rfl rfl (wM rfl) <| wG <| qW ⟨(1, Ca2), ?_⟩ ?_
      · (try dsimp only); exact ⟨rfl, hsa2⟩
      · (try dsimp only); exact (fun w hw => hX _ _ w (qX (C' :: X :: StD x p v md (nx + l.length) dn od :: Cn :: C :: G :: F) w hw))
   rintro ⟨⟨e, Ca2⟩, hcut⟩
   replace hcut : e = 1 ∧ SlC 3 1 us l.length (iV ats) Ca2 := hcut
   obtain ⟨he, hsa2⟩ := hcut
   show Tr _ _ _ ([(0, .pointer (some ⟨x, 0, none⟩)), (3, us), (6, .int .i64 e)]) (Ca2 :: StD x p v md (nx + l.length) dn od :: Cn :: C :: G :: F) _ _
   refine qP <| qB rfl <| q9 (wz rfl rfl) <| qF <| qL rfl (fun hc8 => ?_) (fun hc8 => ?_)
   · (exfalso; omega)
   ·
    refine qZ <| qI <| qO ?_
    have hsa3 : SlC 3 1 us ats.length (iV ats) Ca2 := by rw [hal]; exact hsa2
    refine qK <| qB rfl <| q9 (qQ rfl) <| q9 (qA rfl) <| q9 (qH rfl jL) <| qB rfl <| qG (qx rfl (ku (Cn) (G) (Ca2) (commit_ok H HP p n Cn G Ca2 hn hg hok hfl us ats hsa3 (by rw [hpp, hal]) hr hgn))) ?_
    rintro t61 _ ⟨ui, ud, Ci, Cd, Cn', rfl, hsi, hsd, hn', rfl⟩
    refine qB rfl <| q9 (qi rfl rfl) <| q9 (qi rfl rfl) <| q9 (qi rfl rfl) <| qD rfl <| qD rfl <| qD rfl <| qT ?_
    rw [hpp, hflat] at hsi
    rw [← Z5] at hsd
    obtain ⟨pi, ci, hvi⟩ := hsi.slice
    obtain ⟨pd, cd, hvd⟩ := hsd.slice
    refine qI <| qP <| qB rfl <| q9 (qQ rfl) <| q9 (qA rfl) <| q9 (zZ (r := v) rfl (kT hv) hv) <| qB rfl <| qG (qx rfl (k0 (C) (Ca2) (rcommit_ok W v C Ca2 hw us ats hsa3 (by rw [hl, hal]) hr hrok hgl))) ?_
    rintro t71 _ ⟨lv, up, us2, ud2, C', Cp2, Cs2, Cd2, rfl, hw', hsp2, hss2, hsd3, rfl⟩
    refine qB rfl <| q9 (qi rfl rfl) <| q9 (qi rfl rfl) <| q9 (qi rfl rfl) <| q9 (qi rfl rfl) <| q9 (qi rfl rfl) <| qG (qn) ?_
    rintro t10 _ ⟨b10, rfl, rfl⟩
    refine qS (qq (l := node0V) rfl rfl rfl hw'.len hw'.one) <| qD rfl <| qD rfl <| qD rfl <| qD rfl <| qT ?_
    rw [hl] at hsp2
    rw [hl, hf] at hss2
    obtain ⟨pp2, cp2, hvp2⟩ := hsp2.slice
    refine qI <| qP <| qB rfl <| q9 (wS rfl hw'.len) <| q9 (qQ rfl) <| q9 (qA rfl) <| qS (k3 (r := stV p lv md (nx + l.length) dn) rfl rfl (WA hv hw'.len) (by rw [ja hv, hw'.len]; decide) hw'.len hw'.one) ?_
    refine qF <| qO <| qP <| qB rfl <| q9 (wz rfl rfl) <| qB rfl <| qY (s := 83) rfl (fun hg13_2 => ?_) (fun hg13_2 => ?_)
    · exact absurd rfl hg13_2
    ·
     refine qE rfl rfl (qM rfl) <| qE rfl rfl (wz rfl rfl) <| q9 (qU rfl rfl) <| qB rfl <| qY (s := 87) rfl (fun hg13_6 => ?_) (fun hg13_6 => ?_)
     · exact absurd rfl hg13_6
     ·
      refine qE rfl rfl (qM rfl) <| qE rfl rfl (qM rfl) <| qE rfl rfl (wJ rfl (yj (Cd) (Cd2) (KH ud ud2 Cd Cd2 _ _ hsd hsd3 (by omega)))) <| qE rfl rfl (kN rfl) <| q9 (qU rfl rfl) <| qB rfl <| y0 (s := 93) rfl (fun hg13_12 => ?_) (fun hg13_12 => ?_)
      · (rw [hdead] at hg13_12; simp at hg13_12)
      ·
       refine qE rfl rfl (qM rfl) <| qE rfl rfl (wD (by rw [hvi]; rfl)) ?_
       refine qE rfl rfl (qM rfl) <| qE rfl rfl (wD (by rw [hvp2]; rfl)) ?_
       refine qE rfl rfl (wz rfl rfl) <| q9 (qU rfl rfl) <| qF <| qL rfl (fun hc13 => ?_) (fun hc13 => ?_)
       · exact absurd rfl hc13
       ·
        refine qZ <| qI <| qO <| qP <| qB rfl <| q9 (wD (by rw [hvi]; rfl)) ?_
        refine qB rfl <| qF <| qg <| wV (Γ := {pΓ : (Nat) × (Obj) // (fun (i : Nat) (oi : Obj) => i ≤ l.length ∧ MapF (Value.int .i64) jH (xq f D ((l.zip ats).take i)) oi) pΓ.1 pΓ.2}) (fun g => (fun (i : Nat) (oi : Obj) => [(0, .pointer (some ⟨x, 0, none⟩)), (3, us), (7, ui), (8, ud), (11, up), (12, us2), (101, .int .i64 l.length), (102, .int .i64 i)]) g.1.1 g.1.2) (fun g => (fun (i : Nat) (oi : Obj) => Ci :: Cd :: Cp2 :: Cs2 :: Ca2 :: StD x p lv md (nx + l.length) dn oi :: Cn' :: C' :: G :: F) g.1.1 g.1.2) (fun g => (fun (i : Nat) (oi : Obj) => l.length - i) g.1.1 g.1.2) ⟨(0, od), by dsimp only; exact ⟨by omega, hD⟩⟩ (qX _) ?_
        rintro ⟨⟨i, oi⟩, hloop⟩
        replace hloop : i ≤ l.length ∧ MapF (Value.int .i64) jH (xq f D ((l.zip ats).take i)) oi := hloop
        obtain ⟨hi2, hDi⟩ := hloop
        show Tr _ _ _ ([(0, .pointer (some ⟨x, 0, none⟩)), (3, us), (7, ui), (8, ud), (11, up), (12, us2), (101, .int .i64 l.length), (102, .int .i64 i)]) (Ci :: Cd :: Cp2 :: Cs2 :: Ca2 :: StD x p lv md (nx + l.length) dn oi :: Cn' :: C' :: G :: F) _ _
        refine qP <| q9 (wL rfl rfl) <| qF <| qO <| qL rfl (fun hc16 => ?_) (fun hc16 => ?_)
        ·
         refine qZ <| qI <| qO <| qg <| qP <| qB rfl <| qD rfl <| qF <| qO <| qO ?_
         obtain ⟨k, hk⟩ : ∃ k, l[i]? = some k := ⟨_, List.getElem?_eq_getElem (by omega)⟩
         have ha := hatg i (by omega)
         rcases hsi with ⟨-, h0, -⟩ | ⟨bI, capI, spI, rfl, hcsI, rfl, hcapI, hncI⟩
         · omega
         rcases hsp2 with ⟨-, h0, -⟩ | ⟨bP, capP, spP, rfl, hcsP, rfl, hcapP, hncP⟩
         · omega
         rcases hss2 with ⟨-, h0, -⟩ | ⟨bS, capS, spS, rfl, hcsS, rfl, hcapS, hncS⟩
         · omega
         rcases hsa2 with ⟨-, h0, -⟩ | ⟨bA, capA, spA, rfl, hcsA, rfl, hcapA, hncA⟩
         · omega
         refine wQ w8 <| wE [(105, .pure _), (106, .pure _), (107, .pure _), (108, .pure _), (109, .pure _), (110, .pure _), (111, .pure _), (112, .pure _), (113, .pure _), (114, .pure _), (115, .pure _)] (by kernel_rfl) rfl rfl rfl wd (qC rfl (fun X => qM rfl) <| qC rfl (fun X => qM rfl) <| qC rfl (fun X => qw (j := i) (off := i * 132) rfl rfl rfl (by omega) (by simp)) <| qC rfl (fun X => w6 rfl) <| qC rfl (fun X => QQ (enc := fun k => kZ W.num W.ver k (f k)) (j := i) (k := 0) (q := Qg W.num W.ver k) (fun _ => Yd _ _ _ _) rfl (show (bI, Obj.cells (l.flatMap (fun k => kZ W.num W.ver k (f k)) ++ spI).toArray 109 (0, 0)) ∈ List.flatten _ by simp) hk rfl (by decide) rfl) <| qC rfl (fun X => qM rfl) <| qC rfl (fun X => qM rfl) <| qC rfl (fun X => qM rfl) <| qC rfl (fun X => qw (j := i) (off := i * 2) rfl rfl rfl (by omega) (by simp)) <| qC rfl (fun X => zC (j := i) y4 rfl hk rfl) <| qC rfl (fun X => wJ rfl (zS (StD x p lv md (nx + l.length) dn oi) (YZ x p md lv (nx + l.length) dn oi (zE W ats) C' hw' k))) <| ParH.nil rfl) ?_
         dsimp only [zQ, List.drop, List.length]
         refine qm (by kernel_rfl) (KE rfl rfl) ?_
         refine qm (by kernel_rfl) (qM rfl) ?_
         refine zi (s := 117) rfl (fun hg18_12 => ?_) (fun hg18_12 => ?_)
         · (rw [hcm.1, hcm.2.1] at hg18_12; exact absurd rfl hg18_12)
         ·
          refine wE [(118, .pure _), (119, .pure _), (120, .pure _), (121, .pure _), (122, .pure _), (123, .pure _), (124, .pure _), (125, .pure _), (126, .pure _)] (by kernel_rfl) rfl rfl rfl wd (wH rfl rfl rfl (fun X => qM rfl) <| wH rfl rfl rfl (fun X => qM rfl) <| wH rfl rfl rfl (fun X => qw (j := i) (off := i * 132) rfl rfl rfl (by omega) (by simp)) <| wH rfl rfl rfl (fun X => w6 rfl) <| wH rfl rfl rfl (fun X => QQ (enc := fun k => kZ W.num W.ver k (f k)) (j := i) (k := 4) (q := ww (f k)) (fun _ => Yd _ _ _ _) rfl (show (bI, Obj.cells (l.flatMap (fun k => kZ W.num W.ver k (f k)) ++ spI).toArray 109 (0, 0)) ∈ List.flatten _ by simp) hk rfl (by decide) (QB _)) <| wH rfl rfl rfl (fun X => qM rfl) <| wH rfl rfl rfl (fun X => qM rfl) <| wH rfl rfl rfl (fun X => qw (j := i) (off := i * 128) rfl rfl rfl (by omega) (by simp)) <| wH rfl rfl rfl (fun X => zC (enc := fun k => ww (f k)) (j := i) (fun _ => by simp) rfl hk rfl) <| ParH.nil rfl) ?_
          dsimp only [zQ, List.drop, List.length]
          refine zm (by kernel_rfl) rfl rfl (KE rfl rfl) ?_
          refine qm (by kernel_rfl) (qU rfl rfl) ?_
          refine wI <| qI <| qL rfl (fun hc18 => ?_) (fun hc18 => ?_)
          · exact absurd rfl hc18
          ·
           refine qZ <| qI <| wQ w8 <| wE [(129, .pure _), (130, .pure _), (131, .pure _), (132, .pure _), (133, .pure _), (134, .pure _), (135, .pure _), (136, .pure _), (137, .pure _), (138, .pure _), (139, .pure _), (140, .pure _), (141, .pure _)] (by kernel_rfl) rfl rfl rfl wd (qC rfl (fun X => qM rfl) <| qC rfl (fun X => qQ rfl) <| qC rfl (fun X => qA rfl) <| qC rfl (fun X => qH rfl (Vg hw'.len)) <| qC rfl (fun X => qM rfl) <| qC rfl (fun X => qM rfl) <| qC rfl (fun X => qw (j := i) (off := i * 1) rfl rfl rfl (by omega) (by simp)) <| qC rfl (fun X => qH rfl (jW ha)) <| qC rfl (fun X => qM rfl) <| qC rfl (fun X => qM rfl) <| qC rfl (fun X => qw (j := i) (off := i * 132) rfl rfl rfl (by omega) (by simp)) <| qC rfl (fun X => w6 rfl) <| qC rfl (fun X => QQ (enc := fun k => kZ W.num W.ver k (f k)) (j := i) (k := 4) (q := ww (f k)) (fun _ => Yd _ _ _ _) rfl (show (bI, Obj.cells (l.flatMap (fun k => kZ W.num W.ver k (f k)) ++ spI).toArray 109 (0, 0)) ∈ List.flatten _ by simp) hk rfl (by decide) (QB _)) <| ParH.nil rfl) ?_
           dsimp only [zQ, List.drop, List.length]
           refine zt (by kernel_rfl) (zR (r := md) (q := nx + i) (v := f k) rfl rfl rfl hDi) ?_
           rintro _ _ ⟨od2, hD2, rfl⟩
           refine wI <| qf <| qI <| qK <| q9 (w9 rfl rfl (by omega)) <| qB rfl <| qT <| w5 ⟨(i + 1, od2), ?_⟩ ?_ ?_
           · (try dsimp only); exact ⟨by omega, by rw [putDs_step hk ha]; exact hD2⟩
           · (try dsimp only); omega
           · (try dsimp only); exact qX _
        ·
         refine wb <| qr <| qt <| qj <| qI <| qO <| qO ?_
         obtain rfl : i = l.length := by omega
         rw [List.take_of_length_le (by rw [List.length_zip]; omega)] at hDi
         refine qK <| qB rfl <| q9 (wD (by rw [hvd]; rfl)) ?_
         refine qB rfl <| qF <| qg <| wV (Γ := {pΓ : (Nat) × (Obj) // (fun (j : Nat) (oj : Obj) => j ≤ (srt (xi n ats)).length ∧ MapF (Value.int .i64) jH (QW (xq f D (l.zip ats)) ((srt (xi n ats)).take j)) oj) pΓ.1 pΓ.2}) (fun g => (fun (j : Nat) (oj : Obj) => [(0, .pointer (some ⟨x, 0, none⟩)), (143, ud), (144, .int .i64 (srt (xi n ats)).length), (145, .int .i64 j)]) g.1.1 g.1.2) (fun g => (fun (j : Nat) (oj : Obj) => Cd :: StD x p lv md (nx + l.length) dn oj :: Cn' :: C' :: G :: F) g.1.1 g.1.2) (fun g => (fun (j : Nat) (oj : Obj) => (srt (xi n ats)).length - j) g.1.1 g.1.2) ⟨(0, oi), by dsimp only; exact ⟨by omega, hDi⟩⟩ (qX _) ?_
         rintro ⟨⟨j, oj⟩, hloop⟩
         replace hloop : j ≤ (srt (xi n ats)).length ∧ MapF (Value.int .i64) jH (QW (xq f D (l.zip ats)) ((srt (xi n ats)).take j)) oj := hloop
         obtain ⟨hj, hDj⟩ := hloop
         show Tr _ _ _ ([(0, .pointer (some ⟨x, 0, none⟩)), (143, ud), (144, .int .i64 (srt (xi n ats)).length), (145, .int .i64 j)]) (Cd :: StD x p lv md (nx + l.length) dn oj :: Cn' :: C' :: G :: F) _ _
         refine qP <| q9 (wL rfl rfl) <| qF <| qO <| qL rfl (fun hc23 => ?_) (fun hc23 => ?_)
         ·
          refine qZ <| qI <| qO <| qg <| qO ?_
          obtain ⟨g, hgj⟩ : ∃ g, (srt (xi n ats))[j]? = some g := ⟨_, List.getElem?_eq_getElem (by omega)⟩
          rcases hsd with ⟨-, h0, -⟩ | ⟨bD, capD, spD, rfl, hcsD, rfl, hcapD, hncD⟩
          · omega
          refine qK <| q9 (qw (j := j) (off := j * 1) rfl rfl rfl (by omega) (by simp)) ?_
          refine q9 (qH rfl (jW hgj)) <| qD rfl <| qF <| qK <| qB rfl <| q9 (qQ rfl) <| q9 (qA rfl) <| q9 (qH rfl (Vg hw'.len)) <| qB rfl <| y5 (xQ (r := md) (q := g) rfl rfl hDj) ?_
          rintro _ _ ⟨od3, hD3, rfl⟩
          refine qT <| qf <| qI <| qK <| q9 (w9 rfl rfl (by omega)) <| qB rfl <| qT <| w5 ⟨(j + 1, od3), ?_⟩ ?_ ?_
          · (try dsimp only); exact ⟨by omega, by rw [delDs_step hgj]; exact hD3⟩
          · (try dsimp only); omega
          · (try dsimp only); exact qX _
         ·
          refine wb <| qr <| qt <| qj <| qI <| qO ?_
          obtain rfl : j = (srt (xi n ats)).length := by omega
          rw [List.take_length, hdead] at hDj
          refine qK <| qD rfl <| qF <| qz <| wF (StD x p lv md (nx + l.length) dn oj :: Cn' :: C' :: G :: F) (.inl rfl) rfl (qu rfl) ?_
          exact ⟨rfl, lv, C', Cn', oj, hn', hw', hDj, rfl⟩
theorem lload_ok (x p md : Nat) (v : List Value) (nx : Int) (dn : Bool) (hdn : dn = false) (od : Obj) (n n' : NS) (W : RS) (D : Int → Option Sec) (Cn C G : qV)
    (hn : NodeC p n Cn) (hw : RefC ba bl W v C) (hD : MapF (Value.int .i64) jH D od)
    (hld : zh W = [] → W.self.at_ ≠ 0 → ∀ (w0 : World) (F : Res), FnT Tryz.prog w0 68 #[.agg (ww ((D W.self.at_).getD Sec.zero)).toArray, .int .i64 W.self.at_, .func (.func 11) #[.pointer (some ⟨x, 0, none⟩)] #[]] (StD x p v md nx dn od :: G :: F)
      (fun v' L' => ∃ p' Cn', v' = .tuple #[.pointer (some ⟨p', 0, none⟩), .int .i64 0] ∧ NodeC p' n' Cn' ∧ L' = Cn' :: StD x p v md nx dn od :: G :: F)) :
    FnT Tryz.prog w0 31 #[.pointer (some ⟨x, 0, none⟩)] (StD x p v md nx dn od :: Cn :: C :: G :: F) (fun r L' => r = .bool true ∧ ∃ p' Cn', NodeC p' (if zh W = [] ∧ W.self.at_ ≠ 0 then n' else n) Cn' ∧
      L' = StD x p' v md nx dn od :: Cn' :: C :: G :: F) := by
  have hv := hw.len
  obtain ⟨l, hl⟩ : ∃ l, zh W = l := ⟨_, rfl⟩
  have hnil : l = [] ↔ ¬ (l.length : Int) > 0 := by cases l <;> simp
  refine qh (E0 := [(0, _)]) (N := 68) Tryz.func31 rfl rfl rfl rfl ?_
  refine qP <| qD rfl <| qF <| qO <| qP <| qB rfl <| q9 (qQ rfl) <| q9 (qA rfl) <| q9 (zZ (r := v) rfl (kT hv) hv) <| qG (qx rfl (wc (C) (xb W v C hw))) ?_
  rintro t9 _ ⟨Cp, hsp, rfl⟩
  rw [hl] at hsp
  obtain ⟨pp, cp, rfl⟩ := hsp.slice
  refine q9 (wD rfl) <| q9 (y9 rfl rfl) <| qB rfl <| qY (s := 12) rfl (fun hg1_7 => ?_) (fun hg1_7 => ?_)
  ·
   refine qN rfl rfl rfl <| qN rfl rfl rfl <| qN rfl rfl rfl <| qN rfl rfl rfl <| qN rfl rfl rfl <| qN rfl rfl rfl <| qN rfl rfl rfl <| q9 (qk rfl rfl) <| qF <| zL rfl <| qP <| qD rfl <| qF <| qz <| w7 <| wF (StD x p v md nx dn od :: Cn :: C :: G :: F) (.inl rfl) rfl (qu rfl) <| ⟨rfl, p, Cn, ?_, rfl⟩
   rw [if_neg]
   · exact hn
   · rw [hl, hnil]; rintro ⟨h1, h2⟩; first | omega | exact h2 hc1
  ·
   refine qE rfl rfl (qM rfl) <| qE rfl rfl (qQ rfl) <| qE rfl rfl (qA rfl) <| qE rfl rfl (w6 rfl) <| qE rfl rfl (w6 rfl) <| qE rfl rfl (qH rfl ((YO hv (by decide)).trans (ZU hw))) <| qE rfl rfl (wl rfl rfl) <| q9 (qU rfl rfl) <| qF <| qL rfl (fun hc1 => ?_) (fun hc1 => ?_)
   ·
    refine qP <| qD rfl <| qF <| qz <| w7 <| wF (StD x p v md nx dn od :: Cn :: C :: G :: F) (.inl rfl) rfl (qu rfl) <| ⟨rfl, p, Cn, ?_, rfl⟩
    rw [if_neg]
    · exact hn
    · rw [hl, hnil]; rintro ⟨h1, h2⟩; first | omega | exact h2 hc1
   ·
    refine qZ <| qI <| qO ?_
    have hp0 : zh W = [] := by rw [hl]; exact hnil.2 (by omega)
    refine wQ w8 <| wE [(22, .pure _), (23, .pure _), (24, .pure _), (25, .pure _), (26, .pure _), (27, .pure _), (28, .pure _), (29, .pure _), (30, .pure _), (31, .pure _), (32, .pure _), (33, .pure _), (34, .pure _), (35, .pure _), (36, .pure _), (37, .pure _), (38, .pure _), (39, .pure _), (40, .pure _)] (by kernel_rfl) rfl rfl rfl wd (qC rfl (fun X => qM rfl) <| qC rfl (fun X => qQ rfl) <| qC rfl (fun X => qA rfl) <| qC rfl (fun X => qH rfl (Vg hv)) <| qC rfl (fun X => qM rfl) <| qC rfl (fun X => qQ rfl) <| qC rfl (fun X => qA rfl) <| qC rfl (fun X => w6 rfl) <| qC rfl (fun X => w6 rfl) <| qC rfl (fun X => qH rfl ((YO hv (by decide)).trans (ZU hw))) <| qC rfl (fun X => yQ (z := Sec.zero) (q := W.self.at_) rfl rfl hD) <| qC rfl (fun X => qM rfl) <| qC rfl (fun X => qQ rfl) <| qC rfl (fun X => qA rfl) <| qC rfl (fun X => w6 rfl) <| qC rfl (fun X => w6 rfl) <| qC rfl (fun X => qH rfl ((YO hv (by decide)).trans (ZU hw))) <| qC rfl (fun X => qM rfl) <| qC rfl (fun X => wx rfl rfl) <| ParH.nil rfl) ?_
    dsimp only [zQ, List.drop, List.length]
    refine wu (by kernel_rfl) (qx rfl (k0 (StD x p v md nx dn od) (G) (hld hp0 hc1 w0 _))) ?_
    rintro t41 _ ⟨p', Cn', rfl, hn', rfl⟩
    refine qm (by kernel_rfl) (qM rfl) ?_
    refine wE [(42, .pure _), (43, .pure _), (3, .pure _)] (by kernel_rfl) rfl rfl rfl wd (qC rfl (fun X => qi rfl rfl) <| qC rfl (fun X => qi rfl rfl) <| qC rfl (fun X => z8 rfl) <| ParH.nil rfl) ?_
    dsimp only [zQ, List.drop, List.length]
    refine qm (by kernel_rfl) (z8 rfl) ?_
    refine wI <| qI <| qO <| qP <| qB rfl <| q9 (qQ rfl) <| q9 (qA rfl) <| q9 (qH rfl (Ma hv)) <| qB rfl <| y0 (s := 48) rfl (fun hg4_4 => ?_) (fun hg4_4 => ?_)
    · (rw [hdn] at hg4_4; cases hg4_4)
    ·
     refine qN rfl rfl rfl <| qN rfl rfl rfl <| q9 (qU rfl rfl) <| qB rfl <| qN rfl rfl rfl <| qN rfl rfl rfl <| q9 (qU rfl rfl) <| qF <| wU rfl <| qZ <| qI <| qO <| qP <| qB rfl <| q9 (wz rfl rfl) <| qF <| qL rfl (fun hc6 => ?_) (fun hc6 => ?_)
     · exact absurd rfl hc6
     ·
      refine qZ <| qI <| qP <| qB rfl <| qB rfl <| q9 (qQ rfl) <| q9 (qA rfl) <| qS (yA rfl rfl (by rw [ja hv]; decide) rfl) ?_
      refine qT ?_
      rw [MC]
      refine qI <| qP <| qD rfl <| qF <| qz <| wF (StD x p' v md nx dn od :: Cn' :: C :: G :: F) (.inl rfl) rfl (qu rfl) <| ⟨rfl, p', Cn', ?_, rfl⟩
      rw [if_pos ⟨hp0, hc1⟩]; exact hn'
def InB (i : Int) : Prop := 0 ≤ i ∧ i < 1064
theorem Wx {i k : Int} : zF i = (5, k) ↔ (wW i).1 = 2 ∧ (wW i).2.1 = k := by
  unfold zF
  by_cases h1 : (wW i).1 = 1
  · rw [if_pos h1]; constructor
    · intro h; cases h
    · intro h; omega
  · rw [if_neg h1]
    by_cases h2 : (wW i).1 = 2
    · rw [if_pos h2]; constructor
      · intro h; exact ⟨h2, (Prod.mk.inj h).2⟩
      · rintro ⟨-, rfl⟩; rfl
    · rw [if_neg h2]; constructor
      · intro h; cases h
      · intro h; exact absurd h.1 h2
theorem Wy {i : Int} : zF i = (3, 0) ↔ (wW i).1 = 1 := by
  unfold zF
  by_cases h1 : (wW i).1 = 1
  · rw [if_pos h1]; simp [h1]
  · rw [if_neg h1]
    split
    · constructor
      · intro h; cases h
      · intro h; exact absurd h h1
    · constructor
      · intro h; cases h
      · intro h; exact absurd h h1
theorem XY {i : Int} : (zF i).1 = 5 ↔ (wW i).1 = 2 := by
  unfold zF
  by_cases h1 : (wW i).1 = 1
  · rw [if_pos h1]; constructor
    · intro h; exact absurd h (by decide)
    · intro h; omega
  · rw [if_neg h1]
    by_cases h2 : (wW i).1 = 2
    · rw [if_pos h2]; simp [h2]
    · rw [if_neg h2]; constructor
      · intro h; exact absurd h (by decide)
      · intro h; exact absurd h h2
theorem Q7 (i : Int) : zF i ≠ (4, 0) := by
  unfold zF; split
  · decide
  · split
    · intro h; cases h
    · decide
theorem Jz (i : Int) : (zF i).1 ≠ 1 := by
  unfold zF; split
  · decide
  · split <;> simp
def zG (W : RS) (k : Int × Int) : Bool := if k.1 = 5 then (W.leaves k.2).stale else if k.1 = 3 then W.sg.stale else if k.1 = 4 then W.db.stale else W.self.stale
def jp (W : RS) (k : Int × Int) : Prop := ∃ i, InB i ∧ (W.all i).has = true ∧ ((k = (4, 0) ∧ (zF i).1 = 5) ∨ zF i = k)
def frB (W : RS) (k : Int × Int) : Prop := ∃ i, InB i ∧ (W.all i).fresh = true ∧ zF i = k
def chB (W : RS) (k : Int × Int) : Prop := zG W k = true ∨ frB W k
def chL (W : RS) : Prop := ∃ j, 0 ≤ j ∧ j < 32 ∧ chB W (5, j)
def prR (W : RS) (k : Int × Int) : Prop :=
  if k.1 = 1 then (W.all k.2).fresh = true
  else if k.1 = 5 then chB W k ∧ jp W k
  else if k.1 = 3 then chB W k ∧ jp W k
  else if k.1 = 4 then (zG W k = true ∨ chL W) ∧ jp W k
  else (∃ i, InB i ∧ (W.all i).fresh = true) ∨ zG W (2, 0) = true ∨ zG W (3, 0) = true ∨ zG W (4, 0) = true ∨ chL W
theorem yI {n : Nat} {j : Int} : j ∈ zo n ↔ 0 ≤ j ∧ j < n := by
  unfold zo; rw [List.mem_map]
  constructor
  · rintro ⟨a, ha, rfl⟩; have := List.mem_range.1 ha; omega
  · intro h; exact ⟨j.toNat, List.mem_range.2 (by omega), by omega⟩
theorem Qq (n : Nat) : (zo n).take n = zo n := List.take_of_length_le (by rw [x2]; exact Nat.le_refl _)
theorem Yb (W : RS) (k : Int) (hk : 0 ≤ k) : yD W 2 k = true ↔ jp W (5, k) := by
  unfold yD jp
  rw [List.any_eq_true]
  constructor
  · rintro ⟨i, hi, h⟩
    unfold Za at h
    simp only [Bool.and_eq_true, decide_eq_true_eq, Bool.or_eq_true] at h
    exact ⟨i, yI.1 hi, h.1, .inr (Wx.2 ⟨h.2.1, by omega⟩)⟩
  · rintro ⟨i, hi, h1, h2 | h2⟩
    · cases h2.1
    · have := Wx.1 h2
      exact ⟨i, yI.2 hi, by unfold Za; simp [h1, this.1, this.2]⟩
theorem XO (W : RS) : yD W 1 0 = true ↔ jp W (3, 0) := by
  unfold yD jp
  rw [List.any_eq_true]
  constructor
  · rintro ⟨i, hi, h⟩
    unfold Za at h
    simp only [Bool.and_eq_true, decide_eq_true_eq, Bool.or_eq_true] at h
    exact ⟨i, yI.1 hi, h.1, .inr (Wy.2 h.2.1)⟩
  · rintro ⟨i, hi, h1, h2 | h2⟩
    · cases h2.1
    · have h3 := Wy.1 h2
      refine ⟨i, yI.2 hi, ?_⟩
      unfold Za; rw [h1, decide_eq_true h3]
      have : (wW i).2.1 = 0 := by
        unfold wW at h3 ⊢
        repeat' split
        all_goals first | rfl | simp_all
      simp [this]
theorem XP (W : RS) : yD W 2 (-1) = true ↔ jp W (4, 0) := by
  unfold yD jp
  rw [List.any_eq_true]
  constructor
  · rintro ⟨i, hi, h⟩
    unfold Za at h
    simp only [Bool.and_eq_true, decide_eq_true_eq, Bool.or_eq_true] at h
    exact ⟨i, yI.1 hi, h.1, .inl ⟨rfl, XY.2 h.2.1⟩⟩
  · rintro ⟨i, hi, h1, h2 | h2⟩
    · exact ⟨i, yI.2 hi, by unfold Za; simp [h1, XY.1 h2.2]⟩
    · exact absurd h2 (Q7 i)
theorem Ya (W : RS) (k : Int) : Qt W k = true ↔ chB W (5, k) := by
  unfold Qt jh chB frB zG jO
  rw [Qq, Bool.or_eq_true, List.any_eq_true]
  refine or_congr (by simp) ⟨?_, ?_⟩
  · rintro ⟨i, hi, h⟩
    simp only [Bool.and_eq_true, decide_eq_true_eq] at h
    exact ⟨i, yI.1 hi, h.1.1, Wx.2 ⟨h.1.2, h.2⟩⟩
  · rintro ⟨i, hi, h1, h2⟩
    have := Wx.1 h2
    exact ⟨i, yI.2 hi, by simp [h1, this.1, this.2]⟩
theorem sgS_iff (W : RS) : sgS W 1064 = true ↔ chB W (3, 0) := by
  unfold sgS chB frB zG jO
  rw [Qq, Bool.or_eq_true, List.any_eq_true]
  refine or_congr (by simp) ⟨?_, ?_⟩
  · rintro ⟨i, hi, h⟩
    simp only [Bool.and_eq_true, decide_eq_true_eq] at h
    exact ⟨i, yI.1 hi, h.1, Wy.2 h.2⟩
  · rintro ⟨i, hi, h1, h2⟩
    exact ⟨i, yI.2 hi, by simp [h1, Wy.1 h2]⟩
theorem VI (W : RS) : ((zo 32).take 32).any (Qt W) = true ↔ chL W := by
  rw [Qq, List.any_eq_true]
  constructor
  · rintro ⟨j, hj, h⟩; exact ⟨j, (yI.1 hj).1, (yI.1 hj).2, (Ya W j).1 h⟩
  · rintro ⟨j, h0, h1, h⟩; exact ⟨j, yI.2 ⟨h0, h1⟩, (Ya W j).2 h⟩
theorem dbS_iff (W : RS) : dbS W 32 = true ↔ (zG W (4, 0) = true ∨ chL W) := by
  unfold dbS; rw [Bool.or_eq_true, VI]; exact Iff.rfl
theorem VH (W : RS) : WY W 32 = true ↔ prR W (2, 0) := by
  unfold WY M9 prR
  rw [if_neg (by decide), if_neg (by decide), if_neg (by decide), if_neg (by decide), Bool.or_eq_true, VI, Bool.or_eq_true, Bool.or_eq_true, Bool.or_eq_true]
  have h : (!(yR W 1064).isEmpty) = true ↔ ∃ i, InB i ∧ (W.all i).fresh = true := by
    unfold yR; rw [Qq]
    rw [Bool.not_eq_true', ← Bool.not_eq_true, List.isEmpty_iff, List.map_eq_nil_iff, List.filter_eq_nil_iff]
    constructor
    · intro h
      refine Classical.byContradiction fun hn => h fun i hi hf => hn ⟨i, yI.1 hi, hf⟩
    · rintro ⟨i, hi, hf⟩ h; exact h i (yI.2 hi) hf
  rw [h]
  unfold zG
  simp only [show ((2 : Int), (0 : Int)).1 = 2 from rfl, show ((3 : Int), (0 : Int)).1 = 3 from rfl, show ((4 : Int), (0 : Int)).1 = 4 from rfl]
  constructor
  · rintro ((h | h | h | h) | h)
    · exact .inl h
    · exact .inr (.inl h)
    · exact .inr (.inr (.inl h))
    · exact .inr (.inr (.inr (.inl h)))
    · exact .inr (.inr (.inr (.inr h)))
  · rintro (h | h | h | h | h)
    · exact .inl (.inl h)
    · exact .inl (.inr (.inl h))
    · exact .inl (.inr (.inr (.inl h)))
    · exact .inl (.inr (.inr (.inr h)))
    · exact .inr h
open Classical in
theorem Zq (W : RS) : zh W = allParts.filter (fun k => decide (prR W k)) := by
  unfold zh allParts
  rw [List.filter_append, List.filter_append, show (List.range 1064).map (fun i : Nat => ((1 : Int), (i : Int))) = (zo 1064).map (fun j => ((1 : Int), j)) from by unfold zo; rw [List.map_map]; rfl,
    show (List.range 32).map (fun i : Nat => ((5 : Int), (i : Int))) = (zo 32).map (fun j => ((5 : Int), j)) from by unfold zo; rw [List.map_map]; rfl, List.filter_map, List.filter_map, List.append_assoc, List.append_assoc, List.append_assoc]
  congr 1
  · unfold yR; rw [Qq]; congr 1
    refine List.filter_congr fun i hi => ?_
    simp [prR]
  congr 1
  · unfold ky; rw [Qq]; congr 1
    refine List.filter_congr fun i hi => ?_
    rw [Bool.eq_iff_iff, Bool.and_eq_true, Ya, Yb W i (yI.1 hi).1]
    simp [prR]
  · have h3 : sgP W = if prR W (3, 0) then [(3, 0)] else [] := by
      unfold sgP
      have : (sgS W 1064 && yD W 1 0) = true ↔ prR W (3, 0) := by rw [Bool.and_eq_true, sgS_iff, XO]; simp [prR]
      by_cases h : prR W (3, 0)
      · rw [if_pos (this.2 h), if_pos h]
      · rw [if_neg (fun e => h (this.1 e)), if_neg h]
    have h4 : dbP W = if prR W (4, 0) then [(4, 0)] else [] := by
      unfold dbP
      have : (dbS W 32 && yD W 2 (-1)) = true ↔ prR W (4, 0) := by rw [Bool.and_eq_true, dbS_iff, XP]; simp [prR]
      by_cases h : prR W (4, 0)
      · rw [if_pos (this.2 h), if_pos h]
      · rw [if_neg (fun e => h (this.1 e)), if_neg h]
    have h2 : Yq W = if prR W (2, 0) then [(2, 0)] else [] := by
      unfold Yq
      by_cases h : prR W (2, 0)
      · rw [if_pos ((VH W).2 h), if_pos h]
      · rw [if_neg (fun e => h ((VH W).1 e)), if_neg h]
    rw [h3, h4, h2]
    simp only [List.filter_cons, List.filter_nil, decide_eq_true_eq]
    split <;> split <;> split <;> rfl
open Classical in
theorem QD (W : RS) (k : Int × Int) : k ∈ zh W ↔ wC k ∧ prR W k := by
  rw [Zq, List.mem_filter, kY, decide_eq_true_eq]
structure Cpl (n : NS) (W : RS) : Prop where
  num : n.num = W.num
  ver : n.ver = W.ver
  kind : n.kind = W.kind
  size : n.size = W.size
  time : n.time = W.time
  at_ : ∀ k, wC k → (n.at_ k).getD 0 = qy W k
  data : ∀ i, InB i → n.data i = if (W.all i).fresh then some (W.all i).s else none
  stale : ∀ k, wC k → k.1 ≠ 1 → (n.stale k ≠ none ↔ zG W k = true)
  stale1 : ∀ i, n.stale (1, i) = none
  gone : n.gone.Perm W.gone
  ok : NOk n
theorem yH {i : Int} (h : InB i) : wC (1, i) := .inl ⟨rfl, h.1, h.2⟩
theorem yF {j : Int} (h : 0 ≤ j ∧ j < 32) : wC (5, j) := .inr (.inr (.inr (.inr ⟨rfl, h.1, h.2⟩)))
theorem yN : wC (2, 0) := .inr (.inl rfl)
theorem zl : wC (3, 0) := .inr (.inr (.inl rfl))
theorem zp : wC (4, 0) := .inr (.inr (.inr (.inl rfl)))
theorem wT {k : Int × Int} (h : wC k) : (∃ i, InB i ∧ k = (1, i)) ∨ k = (2, 0) ∨ k = (3, 0) ∨ k = (4, 0) ∨ ∃ j, (0 ≤ j ∧ j < 32) ∧ k = (5, j) := by
  rcases h with ⟨h1, h2, h3⟩ | h | h | h | ⟨h1, h2, h3⟩
  · exact .inl ⟨k.2, ⟨h2, h3⟩, Prod.ext h1 rfl⟩
  · exact .inr (.inl h)
  · exact .inr (.inr (.inl h))
  · exact .inr (.inr (.inr (.inl h)))
  · exact .inr (.inr (.inr (.inr ⟨k.2, ⟨h2, h3⟩, Prod.ext h1 rfl⟩)))
theorem Qs {W : RS} {i : Int} : i ∈ Qu W ↔ InB i ∧ (W.all i).has = true := by
  unfold Qu; rw [List.mem_filter]; exact and_congr_left' yI
section
variable {n : NS} {W : RS} (h : Cpl n W)
include h
theorem Cpl.dat {i : Int} : n.data i ≠ none ↔ InB i ∧ (W.all i).fresh = true := by
  constructor
  · intro hd
    have hi := h.ok.data i hd
    refine ⟨hi, ?_⟩
    rw [h.data i hi] at hd
    by_cases hf : (W.all i).fresh = true
    · exact hf
    · rw [if_neg hf] at hd; exact absurd rfl hd
  · rintro ⟨hi, hf⟩
    rw [h.data i hi, if_pos hf]; simp
theorem Cpl.hasN_iff (hh : ∀ i, InB i → ((W.all i).has = true ↔ ((W.all i).fresh = true ∨ (W.all i).at_ ≠ 0))) {i : Int} (hi : InB i) : xM n i ↔ (W.all i).has = true := by
  unfold xM
  rw [hh i hi, h.at_ _ (yH hi), yK, h.data i hi]
  by_cases hf : (W.all i).fresh = true
  · simp [hf]
  · simp [hf]
theorem Cpl.idx (hh : ∀ i, InB i → ((W.all i).has = true ↔ ((W.all i).fresh = true ∨ (W.all i).at_ ≠ 0))) : jI n = Qu W := by
  unfold jI Qu
  refine List.filter_congr fun i hi => ?_
  rw [Bool.eq_iff_iff, decide_eq_true_eq]
  exact h.hasN_iff hh (yI.1 hi)
theorem Cpl.kids (hh : ∀ i, InB i → ((W.all i).has = true ↔ ((W.all i).fresh = true ∨ (W.all i).at_ ≠ 0))) (k : Int × Int) : WX n k = true ↔ jp W k := by
  unfold WX jp
  rw [h.idx hh]
  by_cases e : k = (4, 0)
  · rw [if_pos e, List.any_eq_true]
    constructor
    · rintro ⟨i, hi, h5⟩
      have := Qs.1 hi
      exact ⟨i, this.1, this.2, .inl ⟨e, by simpa using h5⟩⟩
    · rintro ⟨i, hi, h1, h2 | h2⟩
      · exact ⟨i, Qs.2 ⟨hi, h1⟩, by simpa using h2.2⟩
      · exact absurd (h2.trans e) (Q7 i)
  · rw [if_neg e, List.any_eq_true]
    constructor
    · rintro ⟨i, hi, h5⟩
      have := Qs.1 hi
      exact ⟨i, this.1, this.2, .inr (by simpa using h5)⟩
    · rintro ⟨i, hi, h1, h2 | h2⟩
      · exact absurd h2.1 e
      · exact ⟨i, Qs.2 ⟨hi, h1⟩, by simpa using h2⟩
theorem Cpl.base1 {i : Int} : QY n (1, i) ↔ InB i ∧ (W.all i).fresh = true := by
  unfold QY
  rw [h.stale1]
  constructor
  · rintro (h1 | ⟨j, hj, h1 | h1⟩)
    · exact absurd rfl h1
    · obtain rfl : i = j := (Prod.mk.inj h1).2
      exact h.dat.1 hj
    · exact absurd (by rw [← h1]) (Jz j)
  · intro h1; exact .inr ⟨i, h.dat.2 h1, .inl rfl⟩
theorem Cpl.base {k : Int × Int} (hk : wC k) (h1 : k.1 ≠ 1) : QY n k ↔ chB W k := by
  unfold QY chB frB
  rw [h.stale k hk h1]
  refine or_congr Iff.rfl ⟨?_, ?_⟩
  · rintro ⟨i, hi, e | e⟩
    · exact absurd (by rw [e]) h1
    · have := h.dat.1 hi; exact ⟨i, this.1, this.2, e.symm⟩
  · rintro ⟨i, hi, hf, e⟩; exact ⟨i, h.dat.2 ⟨hi, hf⟩, .inr e.symm⟩
theorem Cpl.base5 : (∃ q, QY n q ∧ q.1 = 5) ↔ chL W := by
  constructor
  · rintro ⟨q, hq, h5⟩
    have hk := JC h.ok hq
    have := (h.base hk (by omega)).1 hq
    rcases wT hk with ⟨i, _, rfl⟩ | rfl | rfl | rfl | ⟨j, hj, rfl⟩
    · exact absurd h5 (by simp)
    · exact absurd h5 (by decide)
    · exact absurd h5 (by decide)
    · exact absurd h5 (by decide)
    · exact ⟨j, hj.1, hj.2, this⟩
  · rintro ⟨j, h0, h1, hc⟩
    exact ⟨(5, j), (h.base (yF ⟨h0, h1⟩) (by simp)).2 hc, rfl⟩
theorem Cpl.frFour : ¬ frB W (4, 0) := fun ⟨i, _, _, e⟩ => Q7 i e
theorem Cpl.all_iff {k : Int × Int} (hk : wC k) : Zf n k ∧ (k.1 ≠ 1 → k.1 ≠ 2 → jp W k) ↔ prR W k := by
  have e24 : ((2 : Int), (0 : Int)) ≠ (4, 0) := by decide
  rcases wT hk with ⟨i, hi, rfl⟩ | rfl | rfl | rfl | ⟨j, hj, rfl⟩
  · unfold prR Zf JO
    rw [if_pos rfl, h.base1]
    constructor
    · rintro ⟨(h1 | ⟨h1, -⟩) | ⟨h1, -⟩, -⟩
      · exact h1.2
      · cases h1
      · cases h1
    · intro hf; exact ⟨.inl (.inl ⟨hi, hf⟩), fun e => absurd rfl e⟩
  · unfold prR Zf JO
    rw [if_neg (by decide), if_neg (by decide), if_neg (by decide), if_neg (by decide), h.base yN (by decide)]
    have key : (∃ q, QY n q ∨ q = ((4 : Int), (0 : Int)) ∧ ∃ q, QY n q ∧ q.1 = 5) ↔ (∃ i, InB i ∧ (W.all i).fresh = true) ∨ zG W (2, 0) = true ∨ zG W (3, 0) = true ∨ zG W (4, 0) = true ∨ chL W := by
      constructor
      · rintro ⟨q, hq | ⟨-, hq⟩⟩
        · have hqk := JC h.ok hq
          by_cases h1 : q.1 = 1
          · rcases wT hqk with ⟨i, hi, rfl⟩ | rfl | rfl | rfl | ⟨j, hj, rfl⟩
            · exact .inl ⟨i, h.base1.1 hq⟩
            all_goals exact absurd h1 (by simp)
          · rcases (h.base hqk h1).1 hq with hs | ⟨i, hi, hf, -⟩
            · rcases wT hqk with ⟨i, hi, rfl⟩ | rfl | rfl | rfl | ⟨j, hj, rfl⟩
              · exact absurd rfl h1
              · exact .inr (.inl hs)
              · exact .inr (.inr (.inl hs))
              · exact .inr (.inr (.inr (.inl hs)))
              · exact .inr (.inr (.inr (.inr ⟨j, hj.1, hj.2, .inl hs⟩)))
            · exact .inl ⟨i, hi, hf⟩
        · exact .inr (.inr (.inr (.inr (h.base5.1 hq))))
      · rintro (⟨i, hi, hf⟩ | hs | hs | hs | hc)
        · exact ⟨(1, i), .inl (h.base1.2 ⟨hi, hf⟩)⟩
        · exact ⟨(2, 0), .inl ((h.base yN (by decide)).2 (.inl hs))⟩
        · exact ⟨(3, 0), .inl ((h.base zl (by decide)).2 (.inl hs))⟩
        · exact ⟨(4, 0), .inl ((h.base zp (by decide)).2 (.inl hs))⟩
        · obtain ⟨q, hq, -⟩ := h.base5.2 hc
          exact ⟨q, .inl hq⟩
    constructor
    · rintro ⟨(h1 | ⟨h1, -⟩) | ⟨-, h1⟩, -⟩
      · rcases h1 with h1 | ⟨i, hi, hf, -⟩
        · exact .inr (.inl h1)
        · exact .inl ⟨i, hi, hf⟩
      · cases h1
      · exact key.1 h1
    · intro h1; exact ⟨.inr ⟨rfl, key.2 h1⟩, fun _ e => absurd rfl e⟩
  · unfold prR Zf JO
    rw [if_neg (by decide), if_neg (by decide), if_pos rfl, h.base zl (by decide)]
    constructor
    · rintro ⟨(h1 | ⟨h1, -⟩) | ⟨h1, -⟩, h2⟩
      · exact ⟨h1, h2 (by decide) (by decide)⟩
      · cases h1
      · cases h1
    · rintro ⟨h1, h2⟩; exact ⟨.inl (.inl h1), fun _ _ => h2⟩
  · unfold prR Zf JO
    rw [if_neg (by decide), if_neg (by decide), if_neg (by decide), if_pos rfl, h.base zp (by decide), h.base5]
    constructor
    · rintro ⟨(h1 | ⟨-, h1⟩) | ⟨h1, -⟩, h2⟩
      · rcases h1 with h1 | h1
        · exact ⟨.inl h1, h2 (by decide) (by decide)⟩
        · exact absurd h1 h.frFour
      · exact ⟨.inr h1, h2 (by decide) (by decide)⟩
      · cases h1
    · rintro ⟨h1 | h1, h2⟩
      · exact ⟨.inl (.inl (.inl h1)), fun _ _ => h2⟩
      · exact ⟨.inl (.inr ⟨rfl, h1⟩), fun _ _ => h2⟩
  · unfold prR Zf JO
    rw [if_neg (show ¬ ((5 : Int), j).1 = 1 by simp), if_pos rfl, h.base (yF hj) (by simp)]
    constructor
    · rintro ⟨(h1 | ⟨h1, -⟩) | ⟨h1, -⟩, h2⟩
      · exact ⟨h1, h2 (by simp) (by simp)⟩
      · cases h1
      · cases h1
    · rintro ⟨h1, h2⟩; exact ⟨.inl (.inl h1), fun _ _ => h2⟩
open Classical in
theorem Cpl.parts (hh : ∀ i, InB i → ((W.all i).has = true ↔ ((W.all i).fresh = true ∨ (W.all i).at_ ≠ 0))) : yE n = zh W := by
  rw [Zq]
  unfold yE
  refine List.filter_congr fun k hk => ?_
  have hk := (kY k).1 hk
  rw [decide_eq_decide, ← h.all_iff hk]
  refine and_congr_right fun _ => ?_
  unfold Xk
  rw [h.kids hh]
  constructor
  · rintro (e | e | e) h1 h2
    · exact absurd e h1
    · exact absurd e h2
    · exact e
  · intro e
    by_cases h1 : k.1 = 1
    · exact .inl h1
    · by_cases h2 : k.1 = 2
      · exact .inr (.inl h2)
      · exact .inr (.inr (e h1 h2))
end
structure Inv (W : RS) (D : Int → Option Sec) (nx : Int) : Prop where
  has : ∀ i, InB i → ((W.all i).has = true ↔ ((W.all i).fresh = true ∨ (W.all i).at_ ≠ 0))
  hole : ∀ i, InB i → (W.all i).has = false → (W.all i).s = Sec.zero
  kid : ∀ k, wC k → k.1 ≠ 1 → k.1 ≠ 2 → (qy W k ≠ 0 ∨ zG W k = true) → jp W k
  place : ∀ k, wC k → k.1 ≠ 1 → (k.1 ≠ 2 → jp W k) → qy W k ≠ 0 ∨ prR W k
  rngA : ∀ k, wC k → qy W k ≠ 0 → 1 ≤ qy W k ∧ qy W k < nx
  rngG : ∀ a ∈ W.gone, 1 ≤ a ∧ a < nx
  inj : ∀ k q, wC k → wC q → qy W k ≠ 0 → qy W k = qy W q → k = q
  gnd : W.gone.Nodup
  gdj : ∀ a ∈ W.gone, ∀ k, wC k → qy W k ≠ a
  disk : ∀ k, wC k → qy W k ≠ 0 → ¬ prR W k → D (qy W k) = some (zB W k)
  keys : ∀ a, D a ≠ none ↔ (a ∈ W.gone ∨ ∃ k, wC k ∧ qy W k = a ∧ a ≠ 0)
  gone : W.gone ≠ [] → W.self.stale = true
  zero : ∀ i, InB i → ∀ j : Nat, j < 128 → W.size ≤ 128 * i + j → (W.all i).s.l.getD j 0 = 0
  num : W.num = 3
  ver : W.ver = 7
  kind : 1 ≤ W.kind ∧ W.kind ≤ 2
  size : 0 ≤ W.size ∧ W.size ≤ 136192
  time : 0 ≤ W.time ∧ W.time < 4294967296
  nx : 1 ≤ nx
theorem jN {W : RS} {i : Int} : prR W (1, i) ↔ (W.all i).fresh = true := by unfold prR; rw [if_pos rfl]
theorem yg {W : RS} {i : Int} : zB W (1, i) = (W.all i).s := by unfold zB; rw [if_pos rfl]
theorem XU {n : NS} {W : RS} {D : Int → Option Sec} {nx : Int} (h : Cpl n W) (hI : Inv W D nx) {i : Int} (hi : InB i) : blk n D i = some (W.all i).s := by
  by_cases hf : (W.all i).fresh = true
  · exact VC (by rw [h.data i hi, if_pos hf])
  · have hd : n.data i = none := by rw [h.data i hi, if_neg hf]
    have ha : (n.at_ (1, i)).getD 0 = (W.all i).at_ := by rw [h.at_ _ (yH hi), yK]
    by_cases h0 : (W.all i).at_ = 0
    · rw [VE hd (by rw [ha]; simpa using h0)]
      have : (W.all i).has = false := by
        cases e : (W.all i).has with
        | false => rfl
        | true => rcases (hI.has i hi).1 e with h1 | h1
                  · exact absurd h1 hf
                  · exact absurd h0 h1
      rw [hI.hole i hi this]
    · rw [VD hd (by rw [ha]; exact h0), ha]
      have := hI.disk (1, i) (yH hi) (by rw [yK]; exact h0) (by rw [jN]; exact hf)
      rw [yK, yg] at this
      exact this
def Ws (A : Int → Blk) (z : Int) : Int := (A (z / 128)).s.l.getD (z % 128).toNat 0
theorem byteR_A (W : RS) (z : Int) : J8 W z = Ws W.all z := rfl
def MX (A : Int → Blk) (l : List (Int × Int × Int)) : List Int := l.flatMap fun q => ((A q.1).s.l.drop q.2.1.toNat).take (q.2.2 - q.2.1).toNat
theorem slice_bytes (A : Int → Blk) {a m : Int} (h0 : 0 ≤ a) (hm : 0 ≤ m) (hr : a % 128 + m ≤ 128) :
    ((A (a / 128)).s.l.drop (a % 128).toNat).take m.toNat = (List.range m.toNat).map fun j : Nat => Ws A (a + j) := by
  have hl := (A (a / 128)).s.len
  apply List.ext_getElem?
  intro j
  by_cases hj : j < m.toNat
  · have e1 : (a + j) / 128 = a / 128 := by omega
    have e2 : ((a + j) % 128).toNat = (a % 128).toNat + j := by omega
    rw [List.getElem?_take_of_lt hj, List.getElem?_drop, List.getElem?_map, List.getElem?_range hj]
    simp only [Option.map_some, Ws, e1, e2, List.getD_eq_getElem?_getD]
    rw [List.getElem?_eq_getElem (by omega)]; rfl
  · rw [List.getElem?_eq_none (by simp; omega), List.getElem?_eq_none (by simp; omega)]
theorem range_split (m n : Nat) (f : Nat → Int) : (List.range (m + n)).map f = (List.range m).map f ++ (List.range n).map (fun j => f (m + j)) := by
  rw [List.range_add, List.map_append, List.map_map]; rfl
theorem catS_cut (A : Int → Blk) : ∀ (k : Nat) (a e : Int), 0 ≤ a → (e - a).toNat ≤ k → MX A (kq k a e) = (List.range (e - a).toNat).map fun j : Nat => Ws A (a + j) := by
  intro k
  induction k with
  | zero => intro a e h0 hk; rw [show (e - a).toNat = 0 from by omega]; rfl
  | succ k ih =>
    intro a e h0 hk
    unfold kq
    split
    · rename_i hlt
      obtain ⟨T, hT⟩ : ∃ T, min 128 (a % 128 + e - a) = T := ⟨_, rfl⟩
      rw [hT]
      unfold MX
      rw [List.flatMap_cons]
      have h2 := ih (a + (T - a % 128)) e (by omega) (by omega)
      unfold MX at h2
      rw [h2]
      dsimp only
      rw [slice_bytes A h0 (m := T - a % 128) (by omega) (by omega), show (e - a).toNat = (T - a % 128).toNat + (e - (a + (T - a % 128))).toNat from by omega, range_split]
      congr 1
      refine List.map_congr_left fun j _ => ?_
      congr 1; omega
    · rw [show (e - a).toNat = 0 from by omega]; rfl
theorem readL_cpl {n : NS} {W : RS} {D : Int → Option Sec} {nx : Int} (h : Cpl n W) (hI : Inv W D nx) : ∀ (l : List (Int × Int × Int)), (∀ q ∈ l, InB q.1) → QP n D l = some (MX W.all l) := by
  intro l
  induction l with
  | nil => intro _; rfl
  | cons q l ih =>
    intro hq
    unfold QP
    rw [XU h hI (hq q (by simp)), ih (fun p hp => hq p (by simp [hp]))]
    rfl
theorem M0 {a m : Int} (h0 : 0 ≤ a) (he : a + m ≤ 136192) {q : Int × Int × Int} (hq : q ∈ j3 a m) : InB q.1 := by
  have := Qw h0 hq
  unfold InB; omega
theorem read_cpl {n : NS} {W : RS} {D : Int → Option Sec} {nx : Int} (h : Cpl n W) (hI : Inv W D nx) {a m : Int} (ha : 0 ≤ a) (hm : 0 ≤ m) :
    QP n D (j3 (min a n.size) (min m (n.size - min a n.size))) = some (ZL W a m) := by
  have hs := hI.size
  rw [h.size]
  obtain ⟨b, hb⟩ : ∃ b, min a W.size = b := ⟨_, rfl⟩
  obtain ⟨c, hc⟩ : ∃ c, min m (W.size - b) = c := ⟨_, rfl⟩
  rw [hb, hc, readL_cpl h hI _ (fun q hq => M0 (by omega) (by omega) hq)]
  unfold j3
  rw [catS_cut W.all _ b (b + c) (by omega) (by omega)]
  unfold ZL
  congr 1
  rw [show (b + c - b).toNat = c.toNat from by omega]
  by_cases hle : a ≤ W.size
  · rw [show b = a from by omega, show min (W.size - a) m = c from by omega]; rfl
  · rw [show c = 0 from by omega, show (min (W.size - a) m).toNat = 0 from by omega]; rfl
theorem Xf : ∀ (l : List (Int × Int × Int)) (bs : List Int) (A : Int → Blk) (i : Int), (j7 l bs A i).at_ = (A i).at_ := by
  intro l
  induction l with
  | nil => intro bs A i; rfl
  | cons q l ih =>
    intro bs A i
    unfold j7; rw [ih]; unfold upd; split
    · rename_i e; rw [e]
    · rfl
theorem W9 : ∀ (l : List (Int × Int × Int)) (bs : List Int) (A : Int → Blk) (i : Int), ((j7 l bs A i).has = true ↔ ((A i).has = true ∨ ∃ q ∈ l, q.1 = i)) ∧ ((j7 l bs A i).fresh = true ↔ ((A i).fresh = true ∨ ∃ q ∈ l, q.1 = i)) := by
  intro l
  induction l with
  | nil => intro bs A i; simp [j7]
  | cons q l ih =>
    intro bs A i
    unfold j7
    have h := ih (bs.drop (q.2.2 - q.2.1).toNat) (upd A q.1 ⟨true, (A q.1).at_, true, yC (A q.1).s q.2.1.toNat (bs.take (q.2.2 - q.2.1).toNat)⟩) i
    rw [h.1, h.2]
    by_cases e : i = q.1
    · subst e; rw [zW]; simp
    · rw [wk _ _ e]; simp [Ne.symm e]
theorem wrAll_off : ∀ (l : List (Int × Int × Int)) (bs : List Int) (A : Int → Blk) (i : Int), (∀ q ∈ l, q.1 ≠ i) → j7 l bs A i = A i := by
  intro l
  induction l with
  | nil => intro bs A i _; rfl
  | cons q l ih =>
    intro bs A i h
    unfold j7
    rw [ih _ _ _ (fun p hp => h p (by simp [hp])), wk _ _ (Ne.symm (h q (by simp)))]
theorem writeL_cpl (n : NS) (D : Int → Option Sec) : ∀ (l : List (Int × Int × Int)) (bs : List Int) (f : Int → Option Sec) (A : Int → Blk), (∀ q ∈ l, blk n D q.1 = some (A q.1).s) → l.Pairwise (fun p q => p.1 ≠ q.1) →
    (∀ i, InB i → JM f n.data i = if (A i).fresh then some (A i).s else none) →
    ∃ f', jt n D l bs f = some f' ∧ ∀ i, InB i → JM f' n.data i = if (j7 l bs A i).fresh then some (j7 l bs A i).s else none := by
  intro l
  induction l with
  | nil => intro bs f A _ _ h; exact ⟨f, rfl, h⟩
  | cons q l ih =>
    intro bs f A hq hp h
    have hp' := List.pairwise_cons.1 hp
    unfold jt j7
    rw [hq q (by simp)]
    refine ih _ _ _ (fun p hpl => ?_) hp'.2 (fun i hi => ?_)
    · rw [wk _ _ (Ne.symm (hp'.1 p hpl))]; exact hq p (by simp [hpl])
    · unfold JM
      by_cases e : i = q.1
      · subst e; rw [zW, zW]; rfl
      · rw [wk _ _ e, wk _ _ e]; exact h i hi
theorem cut_distinct : ∀ (k : Nat) (a e : Int), 0 ≤ a → (e - a).toNat ≤ k → (kq k a e).Pairwise (fun p q => p.1 ≠ q.1) ∧ ∀ q ∈ kq k a e, a / 128 ≤ q.1 := by
  intro k
  induction k with
  | zero => intro a e _ _; exact ⟨List.Pairwise.nil, fun q hq => by cases hq⟩
  | succ k ih =>
    intro a e h0 hk
    unfold kq
    split
    · rename_i hlt
      obtain ⟨T, hT⟩ : ∃ T, min 128 (a % 128 + e - a) = T := ⟨_, rfl⟩
      rw [hT]
      have h2 := ih (a + (T - a % 128)) e (by omega) (by omega)
      refine ⟨List.pairwise_cons.2 ⟨fun q hq => ?_, h2.1⟩, fun q hq => ?_⟩
      · dsimp only
        by_cases he : T = 128
        · have := h2.2 q hq; omega
        · rw [jG (by omega)] at hq; cases hq
      · rcases List.mem_cons.1 hq with rfl | hq
        · exact Int.le_refl _
        · have := h2.2 q hq; omega
    · exact ⟨List.Pairwise.nil, fun q hq => by cases hq⟩
theorem Ww {i : Int} (hi : InB i) : zF i = (2, 0) ∨ zF i = (3, 0) ∨ ∃ j, (0 ≤ j ∧ j < 32) ∧ zF i = (5, j) := by
  rcases wT (QL hi) with ⟨j, _, h⟩ | h | h | h | ⟨j, hj, h⟩
  · exact absurd (by rw [h]) (Jz i)
  · exact .inl h
  · exact .inr (.inl h)
  · exact absurd h (Q7 i)
  · exact .inr (.inr ⟨j, hj, h⟩)
structure SameP (W W1 : RS) : Prop where
  leaves : ∀ j, 0 ≤ j ∧ j < 32 → W1.leaves j = W.leaves j
  sg : W1.sg = W.sg
  db : W1.db = W.db
  self : W1.self = W.self
  gone : W1.gone = W.gone
  num : W1.num = W.num
  ver : W1.ver = W.ver
  kind : W1.kind = W.kind
  time : W1.time = W.time
  at_ : ∀ i, InB i → (W1.all i).at_ = (W.all i).at_
section
variable {W W1 : RS} (h : SameP W W1)
include h
theorem SameP.wh {k : Int × Int} (hk : wC k) : qy W1 k = qy W k := by
  rcases wT hk with ⟨i, hi, rfl⟩ | rfl | rfl | rfl | ⟨j, hj, rfl⟩
  · rw [yK, yK, h.at_ i hi]
  · unfold qy; rw [h.self]; simp
  · unfold qy; rw [h.sg]; simp
  · unfold qy; rw [h.db]; simp
  · rw [kw, kw, h.leaves j hj]
theorem SameP.st {k : Int × Int} (hk : wC k) (h1 : k.1 ≠ 1) : zG W1 k = zG W k := by
  rcases wT hk with ⟨i, hi, rfl⟩ | rfl | rfl | rfl | ⟨j, hj, rfl⟩
  · exact absurd rfl h1
  · unfold zG; rw [h.self]; simp
  · unfold zG; rw [h.sg]; simp
  · unfold zG; rw [h.db]; simp
  · unfold zG; rw [if_pos rfl, if_pos rfl, h.leaves j hj]
end
theorem Yl {W W1 : RS} (h : ∀ k, wC k → qy W1 k = qy W k) {f : Int → Int × Int} (hf : ∀ j : Nat, j < 32 → wC (f j)) : y6 W1 f = y6 W f := by
  unfold y6
  refine List.map_congr_left fun j hj => h _ (hf j (List.mem_range.1 hj))
theorem xw {j : Int} (hj : 0 ≤ j ∧ j < 32) : ∀ i : Nat, i < 32 → wC (zV 2 j i) := fun i hi => QU (.inr ⟨rfl, hj.1, hj.2⟩) i hi
theorem xx : ∀ i : Nat, i < 32 → wC (zV 1 0 i) := fun i hi => QU (.inl ⟨rfl, rfl⟩) i hi
theorem xa : ∀ i : Nat, i < 32 → wC ((5 : Int), (i : Int)) := fun i hi => yF ⟨by omega, by omega⟩
theorem jS {W W1 : RS} (h : ∀ k, wC k → qy W1 k = qy W k) {k : Int × Int} (hk : wC k) (h1 : k.1 ≠ 1) (h2 : k.1 ≠ 2) : zB W1 k = zB W k := by
  rcases wT hk with ⟨i, hi, rfl⟩ | rfl | rfl | rfl | ⟨j, hj, rfl⟩
  · exact absurd rfl h1
  · exact absurd rfl h2
  · unfold zB; simp only [show ((3 : Int), (0 : Int)).1 = 3 from rfl]; rw [Yl h xx]; simp
  · unfold zB; simp only [show ((4 : Int), (0 : Int)).1 = 4 from rfl]; rw [Yl h xa]; simp
  · unfold zB; simp only [show ((5 : Int), j).1 = 5 from rfl, show ((5 : Int), j).2 = j from rfl]; rw [Yl h (xw hj)]; simp
theorem ino_same {W W1 : RS} (h : ∀ k, wC k → qy W1 k = qy W k) (hn : W1.num = W.num) (hv : W1.ver = W.ver) (hk : W1.kind = W.kind) (hs : W1.size = W.size) (ht : W1.time = W.time) : je W1 = je W := by
  unfold je
  have h3 := h (3, 0) zl
  have h4 := h (4, 0) zp
  rw [hn, hv, hk, hs, ht, show W1.sg.at_ = W.sg.at_ from h3, show W1.db.at_ = W.db.at_ from h4]
  congr 1
  refine List.map_congr_left fun j hj => h _ (yH ?_)
  have := List.mem_range.1 hj
  exact ⟨by omega, by omega⟩
theorem xt {W W1 : RS} (h : ∀ k, wC k → qy W1 k = qy W k) (hn : W1.num = W.num) (hv : W1.ver = W.ver) (hk : W1.kind = W.kind) (hs : W1.size = W.size) (ht : W1.time = W.time) : zB W1 (2, 0) = zB W (2, 0) := by
  unfold zB; rw [ino_same h hn hv hk hs ht]; simp
theorem Xw {W W1 : RS} (hf : ∀ i, InB i → (W.all i).fresh = true → (W1.all i).fresh = true) (hh : ∀ i, InB i → (W.all i).has = true → (W1.all i).has = true)
    (hs : ∀ k, wC k → k.1 ≠ 1 → zG W k = true → zG W1 k = true) {k : Int × Int} (hk : wC k) (h : prR W k) : prR W1 k := by
  have hfr : ∀ q, frB W q → frB W1 q := fun q ⟨i, hi, h1, h2⟩ => ⟨i, hi, hf i hi h1, h2⟩
  have hkb : ∀ q, jp W q → jp W1 q := fun q ⟨i, hi, h1, h2⟩ => ⟨i, hi, hh i hi h1, h2⟩
  have hch : ∀ q, wC q → q.1 ≠ 1 → chB W q → chB W1 q := fun q hq h1 h2 => h2.imp (hs q hq h1) (hfr q)
  have hcl : chL W → chL W1 := fun ⟨j, h0, h1, h2⟩ => ⟨j, h0, h1, hch _ (yF ⟨h0, h1⟩) (by simp) h2⟩
  rcases wT hk with ⟨i, hi, rfl⟩ | rfl | rfl | rfl | ⟨j, hj, rfl⟩
  · rw [jN] at h ⊢; exact hf i hi h
  · unfold prR at h ⊢
    simp only [show ((2 : Int), (0 : Int)).1 = 2 from rfl] at h ⊢
    simp only [show ¬ (2 : Int) = 1 by decide, show ¬ (2 : Int) = 5 by decide, show ¬ (2 : Int) = 3 by decide, show ¬ (2 : Int) = 4 by decide, if_false] at h ⊢
    rcases h with ⟨i, hi, h⟩ | h | h | h | h
    · exact .inl ⟨i, hi, hf i hi h⟩
    · exact .inr (.inl (hs _ yN (by decide) h))
    · exact .inr (.inr (.inl (hs _ zl (by decide) h)))
    · exact .inr (.inr (.inr (.inl (hs _ zp (by decide) h))))
    · exact .inr (.inr (.inr (.inr (hcl h))))
  · unfold prR at h ⊢
    simp only [show ((3 : Int), (0 : Int)).1 = 3 from rfl] at h ⊢
    simp only [show ¬ (3 : Int) = 1 by decide, show ¬ (3 : Int) = 5 by decide, if_true, if_false] at h ⊢
    exact ⟨hch _ zl (by decide) h.1, hkb _ h.2⟩
  · unfold prR at h ⊢
    simp only [show ((4 : Int), (0 : Int)).1 = 4 from rfl] at h ⊢
    simp only [show ¬ (4 : Int) = 1 by decide, show ¬ (4 : Int) = 5 by decide, show ¬ (4 : Int) = 3 by decide, if_true, if_false] at h ⊢
    exact ⟨h.1.imp (hs _ zp (by decide)) hcl, hkb _ h.2⟩
  · unfold prR at h ⊢
    simp only [show ((5 : Int), j).1 = 5 from rfl] at h ⊢
    simp only [show ¬ (5 : Int) = 1 by decide, if_true, if_false] at h ⊢
    exact ⟨hch _ (yF hj) (by simp) h.1, hkb _ h.2⟩
theorem XF {W : RS} {i : Int} (hi : InB i) (hf : (W.all i).fresh = true) (hh : (W.all i).has = true) {k : Int × Int} (hk : wC k) (h1 : k.1 ≠ 1) (hu : k = (2, 0) ∨ (k = (4, 0) ∧ (zF i).1 = 5) ∨ zF i = k) : prR W k := by
  have h2 : prR W (2, 0) := by
    unfold prR
    simp only [show ¬ (2 : Int) = 1 by decide, show ¬ (2 : Int) = 5 by decide, show ¬ (2 : Int) = 3 by decide, show ¬ (2 : Int) = 4 by decide, if_false]
    exact .inl ⟨i, hi, hf⟩
  rcases hu with rfl | ⟨rfl, h5⟩ | rfl
  · exact h2
  · unfold prR
    simp only [show ¬ (4 : Int) = 1 by decide, show ¬ (4 : Int) = 5 by decide, show ¬ (4 : Int) = 3 by decide, if_true, if_false]
    refine ⟨.inr ?_, ⟨i, hi, hh, .inl ⟨rfl, h5⟩⟩⟩
    rcases Ww hi with e | e | ⟨j, hj, e⟩
    · rw [e] at h5; exact absurd h5 (by decide)
    · rw [e] at h5; exact absurd h5 (by decide)
    · exact ⟨j, hj.1, hj.2, .inr ⟨i, hi, hf, e⟩⟩
  · rcases Ww hi with e | e | ⟨j, hj, e⟩
    · rw [e]; exact h2
    · rw [e]
      unfold prR
      simp only [show ¬ (3 : Int) = 1 by decide, show ¬ (3 : Int) = 5 by decide, if_true, if_false]
      exact ⟨.inr ⟨i, hi, hf, e⟩, ⟨i, hi, hh, .inr e⟩⟩
    · rw [e]
      unfold prR
      simp only [show ¬ (5 : Int) = 1 by decide, if_true, if_false]
      exact ⟨.inr ⟨i, hi, hf, e⟩, ⟨i, hi, hh, .inr e⟩⟩
theorem Inv.touch {W W1 : RS} {D : Int → Option Sec} {nx : Int} (hI : Inv W D nx) (T : Int → Prop) (hT : ∀ i, T i → InB i) (hne : ∃ i, T i) (hp : SameP W W1)
    (hhas : ∀ i, InB i → ((W1.all i).has = true ↔ ((W.all i).has = true ∨ T i))) (hfr : ∀ i, InB i → ((W1.all i).fresh = true ↔ ((W.all i).fresh = true ∨ T i)))
    (hs : ∀ i, InB i → ¬ T i → (W1.all i).s = (W.all i).s) (hsz : 0 ≤ W1.size ∧ W1.size ≤ 136192)
    (hz : ∀ i, InB i → ∀ j : Nat, j < 128 → W1.size ≤ 128 * i + j → (W1.all i).s.l.getD j 0 = 0) : Inv W1 D nx := by
  have hw : ∀ k, wC k → qy W1 k = qy W k := fun k hk => hp.wh hk
  have hmono : ∀ k, wC k → prR W k → prR W1 k := fun k hk h => Xw (fun i hi h => (hfr i hi).2 (.inl h)) (fun i hi h => (hhas i hi).2 (.inl h)) (fun q hq h1 h => by rw [hp.st hq h1]; exact h) hk h
  have hkb : ∀ q, jp W q → jp W1 q := fun q ⟨i, hi, h1, h2⟩ => ⟨i, hi, (hhas i hi).2 (.inl h1), h2⟩
  obtain ⟨i0, h0⟩ := hne
  have hself : prR W1 (2, 0) := XF (hT i0 h0) ((hfr i0 (hT i0 h0)).2 (.inr h0)) ((hhas i0 (hT i0 h0)).2 (.inr h0)) yN (by decide) (.inl rfl)
  refine ⟨?_, ?_, ?_, ?_, ?_, ?_, ?_, ?_, ?_, ?_, ?_, ?_, hz, ?_, ?_, ?_, hsz, ?_, hI.nx⟩
  · intro i hi
    rw [hhas i hi, hfr i hi, hp.at_ i hi, hI.has i hi]
    constructor
    · rintro ((h | h) | h)
      · exact .inl (.inl h)
      · exact .inr h
      · exact .inl (.inr h)
    · rintro ((h | h) | h)
      · exact .inl (.inl h)
      · exact .inr h
      · exact .inl (.inr h)
  · intro i hi hn
    have hnT : ¬ T i := fun h => by rw [(hhas i hi).2 (.inr h)] at hn; cases hn
    rw [hs i hi hnT]
    refine hI.hole i hi ?_
    cases e : (W.all i).has with
    | false => rfl
    | true => rw [(hhas i hi).2 (.inl e)] at hn; cases hn
  · intro k hk h1 h2 h
    rw [hw k hk, hp.st hk h1] at h
    exact hkb k (hI.kid k hk h1 h2 h)
  · intro k hk h1 hkid
    rw [hw k hk]
    by_cases h2 : k.1 = 2
    · right
      rcases wT hk with ⟨i, hi, rfl⟩ | rfl | rfl | rfl | ⟨j, hj, rfl⟩
      · exact absurd rfl h1
      · exact hself
      · exact absurd h2 (by decide)
      · exact absurd h2 (by decide)
      · exact absurd h2 (by simp)
    · obtain ⟨i, hi, hh, hu⟩ := hkid h2
      rcases (hhas i hi).1 hh with ho | ht
      · exact (hI.place k hk h1 (fun _ => ⟨i, hi, ho, hu⟩)).imp_right (hmono k hk)
      · exact .inr (XF hi ((hfr i hi).2 (.inr ht)) hh hk h1 (.inr hu))
  · intro k hk h; rw [hw k hk] at h ⊢; exact hI.rngA k hk h
  · intro a ha; rw [hp.gone] at ha; exact hI.rngG a ha
  · intro k q hk hq h e; rw [hw k hk] at h e; rw [hw q hq] at e; exact hI.inj k q hk hq h e
  · rw [hp.gone]; exact hI.gnd
  · intro a ha k hk; rw [hp.gone] at ha; rw [hw k hk]; exact hI.gdj a ha k hk
  · intro k hk h hn
    rw [hw k hk] at h ⊢
    rw [hI.disk k hk h (fun hp' => hn (hmono k hk hp'))]
    congr 1
    by_cases h1 : k.1 = 1
    · rcases wT hk with ⟨i, hi, rfl⟩ | rfl | rfl | rfl | ⟨j, hj, rfl⟩
      · rw [yg, yg, hs i hi]
        intro ht; exact hn (jN.2 ((hfr i hi).2 (.inr ht)))
      · exact absurd h1 (by decide)
      · exact absurd h1 (by decide)
      · exact absurd h1 (by decide)
      · exact absurd h1 (by simp)
    · by_cases h2 : k.1 = 2
      · rcases wT hk with ⟨i, hi, rfl⟩ | rfl | rfl | rfl | ⟨j, hj, rfl⟩
        · exact absurd rfl h1
        · exact absurd hself hn
        · exact absurd h2 (by decide)
        · exact absurd h2 (by decide)
        · exact absurd h2 (by simp)
      · exact (jS hw hk h1 h2).symm
  · intro a
    rw [hI.keys a, hp.gone]
    refine or_congr Iff.rfl ⟨?_, ?_⟩
    · rintro ⟨k, hk, e, h⟩; exact ⟨k, hk, by rw [hw k hk]; exact e, h⟩
    · rintro ⟨k, hk, e, h⟩; exact ⟨k, hk, by rw [← hw k hk]; exact e, h⟩
  · rw [hp.gone, hp.self]; exact hI.gone
  · rw [hp.num]; exact hI.num
  · rw [hp.ver]; exact hI.ver
  · rw [hp.kind]; exact hI.kind
  · rw [hp.time]; exact hI.time
theorem putB_getD (l m : List Int) (k j : Nat) (h : k + m.length ≤ l.length) : (Qc l k m).getD j 0 = if k ≤ j ∧ j < k + m.length then m.getD (j - k) 0 else l.getD j 0 := by
  unfold Qc
  simp only [List.getD_eq_getElem?_getD]
  by_cases h1 : j < k
  · rw [if_neg (by omega), List.append_assoc, List.getElem?_append_left (by rw [List.length_take]; omega), List.getElem?_take_of_lt h1]
  · by_cases h2 : j < k + m.length
    · rw [if_pos ⟨by omega, h2⟩, List.append_assoc, List.getElem?_append_right (by rw [List.length_take]; omega), List.length_take, List.getElem?_append_left (by omega)]
      congr 2; omega
    · rw [if_neg (by omega), List.getElem?_append_right (by rw [List.length_append, List.length_take]; omega), List.getElem?_drop, List.length_append, List.length_take]
      congr 2; omega
theorem JS (s : Sec) (m : List Int) (k j : Nat) (h : k + m.length ≤ 128) (hb : IsB m) : (yC s k m).l.getD j 0 = if k ≤ j ∧ j < k + m.length then m.getD (j - k) 0 else s.l.getD j 0 := by
  rw [x6 h hb]
  exact putB_getD s.l m k j (by rw [s.len]; exact h)
theorem Ks {l : List Int} (h : IsB l) (n : Nat) : IsB (l.take n) := fun b hb => h b (List.mem_of_mem_take hb)
theorem isB_drop {l : List Int} (h : IsB l) (n : Nat) : IsB (l.drop n) := fun b hb => h b (List.mem_of_mem_drop hb)
theorem wrAll_byte : ∀ (k : Nat) (a e : Int) (bs : List Int) (A : Int → Blk) (z : Int), 0 ≤ a → (e - a).toNat ≤ k → bs.length = (e - a).toNat → IsB bs → 0 ≤ z →
    Ws (j7 (kq k a e) bs A) z = if a ≤ z ∧ z < e then bs.getD (z - a).toNat 0 else Ws A z := by
  intro k
  induction k with
  | zero => intro a e bs A z h0 hk hl hb hz; rw [if_neg (by omega)]; rfl
  | succ k ih =>
    intro a e bs A z h0 hk hl hb hz
    unfold kq
    split
    · rename_i hlt
      obtain ⟨T, hT⟩ : ∃ T, min 128 (a % 128 + e - a) = T := ⟨_, rfl⟩
      rw [hT]
      unfold j7
      dsimp only
      obtain ⟨m, hm⟩ : ∃ m : Nat, (T - a % 128).toNat = m := ⟨_, rfl⟩
      rw [hm]
      have htl : (bs.take m).length = m := by rw [List.length_take]; omega
      rw [ih (a + (T - a % 128)) e (bs.drop m) _ z (by omega) (by omega) (by rw [List.length_drop]; omega) (isB_drop hb m) hz]
      by_cases h1 : a + (T - a % 128) ≤ z ∧ z < e
      · rw [if_pos h1, if_pos (by omega)]
        simp only [List.getD_eq_getElem?_getD, List.getElem?_drop]
        congr 2; omega
      · rw [if_neg h1]
        unfold Ws
        by_cases hq : z / 128 = a / 128
        · rw [hq, zW]
          dsimp only
          rw [JS _ _ _ _ (by rw [htl]; omega) (Ks hb m), htl]
          by_cases h2 : a ≤ z ∧ z < e
          · rw [if_pos (by omega), if_pos h2]
            simp only [List.getD_eq_getElem?_getD]
            rw [List.getElem?_take_of_lt (by omega)]
            congr 2; omega
          · rw [if_neg (by omega), if_neg h2]
        · rw [wk _ _ hq, if_neg (by omega)]
    · rw [if_neg (by omega)]; rfl
theorem cut_has : ∀ (k : Nat) (a e : Int), 0 ≤ a → a < e → 0 < k → ∃ q ∈ kq k a e, q.1 = a / 128 := by
  intro k a e h0 h1 hk
  obtain ⟨k, rfl⟩ : ∃ j, k = j + 1 := ⟨k - 1, by omega⟩
  unfold kq; rw [if_pos h1]
  exact ⟨_, List.mem_cons_self, rfl⟩
theorem Xl {A : Int → Blk} {i : Int} {j : Nat} (hj : j < 128) : (A i).s.l.getD j 0 = Ws A (128 * i + j) := by
  unfold Ws
  rw [show (128 * i + j) / 128 = i from by omega, show ((128 * i + j) % 128).toNat = j from by omega]
theorem writeL_sup (n : NS) (D : Int → Option Sec) : ∀ (l : List (Int × Int × Int)) (bs : List Int) (f f' : Int → Option Sec), jt n D l bs f = some f' → ∀ i, f' i ≠ none → f i ≠ none ∨ ∃ q ∈ l, q.1 = i := by
  intro l
  induction l with
  | nil => intro bs f f' h i hi; cases h; exact .inl hi
  | cons q l ih =>
    intro bs f f' h i hi
    unfold jt at h
    split at h
    · cases h
    · rcases ih _ _ _ h i hi with h1 | ⟨p, hp, e⟩
      · by_cases e : i = q.1
        · exact .inr ⟨q, by simp, e.symm⟩
        · rw [wk _ _ e] at h1; exact .inl h1
      · exact .inr ⟨p, by simp [hp], e⟩
theorem JP {n : NS} {W : RS} {D : Int → Option Sec} {nx : Int} (h : Cpl n W) (hI : Inv W D nx) (a : Int) (bs : List Int) (hb : IsB bs) :
    (kv n D a bs).1 = (ke W a bs).1 ∧ Cpl (kv n D a bs).2 (ke W a bs).2 ∧ Inv (ke W a bs).2 D nx := by
  unfold kv ke
  by_cases hc : kr a bs.length ≠ 0 ∨ bs.length = 0
  · rw [if_pos hc, if_pos hc]; exact ⟨rfl, h, hI⟩
  · rw [if_neg hc, if_neg hc]
    have hE : kr a bs.length = 0 := Classical.byContradiction fun e => hc (.inl e)
    have hL : bs.length ≠ 0 := fun e => hc (.inr e)
    have hrng : 0 ≤ a ∧ a + bs.length ≤ 136192 := by
      unfold kr at hE
      split at hE
      · cases hE
      · split at hE
        · cases hE
        · omega
    have hq : ∀ q ∈ j3 a bs.length, InB q.1 := fun q hq => M0 hrng.1 hrng.2 hq
    have hd := cut_distinct (bs.length : Int).toNat a (a + bs.length) hrng.1 (by omega)
    obtain ⟨f', hf', hag⟩ := writeL_cpl n D (j3 a bs.length) bs (fun _ => none) W.all (fun q hqq => XU h hI (hq q hqq)) hd.1 (fun i hi => h.data i hi)
    rw [hf']
    have hby : ∀ z, 0 ≤ z → Ws (j7 (j3 a bs.length) bs W.all) z = if a ≤ z ∧ z < a + bs.length then bs.getD (z - a).toNat 0 else Ws W.all z := fun z hz =>
      wrAll_byte _ a (a + bs.length) bs W.all z hrng.1 (by omega) (by omega) hb hz
    refine ⟨rfl, ⟨h.num, h.ver, h.kind, by rw [show n.size = W.size from h.size], h.time, fun k hk => ?_, hag, h.stale, h.stale1, h.gone, ⟨fun i hi => ?_, h.ok.at1, h.ok.at2, h.ok.stale⟩⟩, ?_⟩
    · rw [show ({ n with data := JM f' n.data, size := max W.size (a + bs.length) } : NS).at_ = n.at_ from rfl, h.at_ k hk]
      rcases wT hk with ⟨i, hi, rfl⟩ | rfl | rfl | rfl | ⟨j, hj, rfl⟩
      · rw [yK, yK]; exact (Xf _ _ _ _).symm
      all_goals rfl
    · have hi' : JM f' n.data i ≠ none := hi
      unfold JM at hi'
      cases e : f' i with
      | some s =>
        rcases writeL_sup n D _ _ _ _ hf' i (by rw [e]; simp) with h1 | ⟨q, hqq, rfl⟩
        · exact absurd rfl h1
        · exact hq q hqq
      | none => rw [e] at hi'; exact h.ok.data i hi'
    · have hs := hI.size
      refine hI.touch (fun i => ∃ q ∈ j3 a bs.length, q.1 = i) (fun i ⟨q, hqq, e⟩ => e ▸ hq q hqq) ?_ ⟨fun _ _ => rfl, rfl, rfl, rfl, rfl, rfl, rfl, rfl, rfl, fun i _ => Xf _ _ _ _⟩ (fun i _ => (W9 _ _ _ i).1) (fun i _ => (W9 _ _ _ i).2) (fun i _ hn => ?_) (by dsimp only; omega) ?_
      · obtain ⟨q, hqq, e⟩ := cut_has (bs.length : Int).toNat a (a + bs.length) hrng.1 (by omega) (by omega)
        exact ⟨_, q, hqq, e⟩
      · dsimp only; rw [wrAll_off _ _ _ i (fun q hqq e => hn ⟨q, hqq, e⟩)]
      · intro i hi j hj hle
        dsimp only at hle ⊢
        have := hi.1
        rw [Xl hj, hby _ (by omega), if_neg (by omega), ← Xl hj]
        exact hI.zero i hi j hj (by omega)
theorem V0 {W W1 : RS} (h : ∀ i, InB i → (W1.all i).has = (W.all i).has) (k : Int × Int) : jp W1 k ↔ jp W k := by
  unfold jp
  constructor
  · rintro ⟨i, hi, h1, h2⟩; exact ⟨i, hi, by rw [← h i hi]; exact h1, h2⟩
  · rintro ⟨i, hi, h1, h2⟩; exact ⟨i, hi, by rw [h i hi]; exact h1, h2⟩
theorem Zp {W : RS} (h : W.self.stale = true) : prR W (2, 0) := by
  unfold prR
  simp only [show ¬ (2 : Int) = 1 by decide, show ¬ (2 : Int) = 5 by decide, show ¬ (2 : Int) = 3 by decide, show ¬ (2 : Int) = 4 by decide, if_false]
  exact .inr (.inl h)
theorem Inv.mark {W W1 : RS} {D : Int → Option Sec} {nx : Int} (hI : Inv W D nx) (hall : ∀ i, InB i → W1.all i = W.all i) (hw : ∀ k, wC k → qy W1 k = qy W k)
    (hst : ∀ k, wC k → k.1 ≠ 1 → zG W k = true → zG W1 k = true) (hnew : ∀ k, wC k → k.1 ≠ 1 → k.1 ≠ 2 → zG W1 k = true → zG W k = true ∨ jp W k)
    (hg : W1.gone = W.gone) (hn : W1.num = W.num) (hv : W1.ver = W.ver) (hkd : W1.kind = W.kind) (hts : (W1.size = W.size ∧ W1.time = W.time) ∨ W1.self.stale = true)
    (hsz : 0 ≤ W1.size ∧ W1.size ≤ 136192) (ht : 0 ≤ W1.time ∧ W1.time < 4294967296) (hz : ∀ i, InB i → ∀ j : Nat, j < 128 → W1.size ≤ 128 * i + j → (W.all i).s.l.getD j 0 = 0) : Inv W1 D nx := by
  have hkb := V0 (W := W) (W1 := W1) (fun i hi => by rw [hall i hi])
  have hmono : ∀ k, wC k → prR W k → prR W1 k := fun k hk h => Xw (fun i hi h => by rw [hall i hi]; exact h) (fun i hi h => by rw [hall i hi]; exact h) hst hk h
  refine ⟨?_, ?_, ?_, ?_, ?_, ?_, ?_, ?_, ?_, ?_, ?_, ?_, ?_, ?_, ?_, ?_, hsz, ht, hI.nx⟩
  · intro i hi; rw [hall i hi]; exact hI.has i hi
  · intro i hi; rw [hall i hi]; exact hI.hole i hi
  · intro k hk h1 h2 h
    rw [hkb]
    rw [hw k hk] at h
    rcases h with h | h
    · exact hI.kid k hk h1 h2 (.inl h)
    · exact (hnew k hk h1 h2 h).elim (fun e => hI.kid k hk h1 h2 (.inr e)) id
  · intro k hk h1 h
    rw [hw k hk]
    exact (hI.place k hk h1 (fun h2 => (hkb k).1 (h h2))).imp_right (hmono k hk)
  · intro k hk h; rw [hw k hk] at h ⊢; exact hI.rngA k hk h
  · intro a ha; rw [hg] at ha; exact hI.rngG a ha
  · intro k q hk hq h e; rw [hw k hk] at h e; rw [hw q hq] at e; exact hI.inj k q hk hq h e
  · rw [hg]; exact hI.gnd
  · intro a ha k hk; rw [hg] at ha; rw [hw k hk]; exact hI.gdj a ha k hk
  · intro k hk h hp
    rw [hw k hk] at h ⊢
    rw [hI.disk k hk h (fun e => hp (hmono k hk e))]
    congr 1
    rcases wT hk with ⟨i, hi, rfl⟩ | rfl | rfl | rfl | ⟨j, hj, rfl⟩
    · rw [yg, yg, hall i hi]
    · rcases hts with ⟨e1, e2⟩ | e
      · exact (xt hw hn hv hkd e1 e2).symm
      · exact absurd (Zp e) hp
    · exact (jS hw zl (by decide) (by decide)).symm
    · exact (jS hw zp (by decide) (by decide)).symm
    · exact (jS hw (yF hj) (by simp) (by simp)).symm
  · intro a
    rw [hI.keys a, hg]
    refine or_congr Iff.rfl ⟨?_, ?_⟩
    · rintro ⟨k, hk, e, h⟩; exact ⟨k, hk, by rw [hw k hk]; exact e, h⟩
    · rintro ⟨k, hk, e, h⟩; exact ⟨k, hk, by rw [← hw k hk]; exact e, h⟩
  · intro h; rw [hg] at h; exact hst (2, 0) yN (by decide) (hI.gone h)
  · intro i hi; rw [hall i hi]; exact hz i hi
  · rw [hn]; exact hI.num
  · rw [hv]; exact hI.ver
  · rw [hkd]; exact hI.kind
theorem Cpl.live {n : NS} {W : RS} (h : Cpl n W) {D : Int → Option Sec} {nx : Int} (hI : Inv W D nx) {k : Int × Int} (hk : wC k) (a : Int) : Wm n k a ↔ xf W k a := by
  unfold Wm xf
  rw [show atN n k = (n.at_ k).getD 0 from rfl, h.at_ k hk, h.parts hI.has]
theorem Kj (W : RS) (k : Int × Int) {q : Int × Int} (hk : wC k) : qy (yX W k) q = qy W q := by
  rcases wT hk with ⟨i, hi, rfl⟩ | rfl | rfl | rfl | ⟨j, hj, rfl⟩
  · unfold yX; rw [if_pos rfl]; unfold qy; dsimp only
    split
    · unfold upd; split
      · rename_i e; rw [e]
      · rfl
    · rfl
  · rfl
  · rfl
  · rfl
  · unfold yX; rw [if_neg (by simp), if_pos rfl]; unfold qy; dsimp only
    split
    · rfl
    · split
      · unfold upd; split
        · rename_i e; rw [e]
        · rfl
      · rfl
theorem Kk (W : RS) {k : Int × Int} (hk : wC k) (h1 : k.1 ≠ 1) {q : Int × Int} (hq : wC q) (hq1 : q.1 ≠ 1) : zG (yX W k) q = if q = k then true else zG W q := by
  rcases wT hk with ⟨i, hi, rfl⟩ | rfl | rfl | rfl | ⟨j, hj, rfl⟩
  · exact absurd rfl h1
  · rcases wT hq with ⟨i, hi, rfl⟩ | rfl | rfl | rfl | ⟨j, hj, rfl⟩
    · exact absurd rfl hq1
    · rfl
    · rfl
    · rfl
    · rw [if_neg (by simp)]; rfl
  · rcases wT hq with ⟨i, hi, rfl⟩ | rfl | rfl | rfl | ⟨j, hj, rfl⟩
    · exact absurd rfl hq1
    · rfl
    · rfl
    · rfl
    · rw [if_neg (by simp)]; rfl
  · rcases wT hq with ⟨i, hi, rfl⟩ | rfl | rfl | rfl | ⟨j, hj, rfl⟩
    · exact absurd rfl hq1
    · rfl
    · rfl
    · rfl
    · rw [if_neg (by simp)]; rfl
  · unfold yX; rw [if_neg (by simp), if_pos rfl]
    rcases wT hq with ⟨i, hi, rfl⟩ | rfl | rfl | rfl | ⟨j', hj', rfl⟩
    · exact absurd rfl hq1
    · rw [if_neg (by simp)]; rfl
    · rw [if_neg (by simp)]; rfl
    · rw [if_neg (by simp)]; rfl
    · unfold zG; rw [if_pos rfl, if_pos rfl]; dsimp only; unfold upd
      by_cases e : j' = j
      · rw [if_pos e, if_pos (by rw [e])]
      · rw [if_neg e, if_neg (by simpa using e)]
theorem Cpl.setStale {n : NS} {W W1 : RS} (h : Cpl n W) {k : Int × Int} (hk : wC k) (h1 : k.1 ≠ 1) (hall : ∀ i, InB i → W1.all i = W.all i) (hw : ∀ q, wC q → qy W1 q = qy W q)
    (hst : ∀ q, wC q → q.1 ≠ 1 → zG W1 q = if q = k then true else zG W q) (hg : W1.gone = W.gone) (hn : W1.num = W.num) (hv : W1.ver = W.ver) (hkd : W1.kind = W.kind) (n1 : NS)
    (hn1 : n1 = { setStale n k with size := W1.size, time := W1.time }) : Cpl n1 W1 := by
  subst hn1
  refine ⟨h.num.trans hn.symm, h.ver.trans hv.symm, h.kind.trans hkd.symm, rfl, rfl, fun q hq => (h.at_ q hq).trans (hw q hq).symm, fun i hi => by rw [hall i hi]; exact h.data i hi, fun q hq hq1 => ?_, fun i => ?_, by rw [hg]; exact h.gone, ⟨h.ok.data, h.ok.at1, h.ok.at2, (h.ok.setStale hk).stale⟩⟩
  · rw [hst q hq hq1]
    show upd n.stale k (some 1) q ≠ none ↔ _
    unfold upd; split
    · simp
    · exact h.stale q hq hq1
  · show upd n.stale k (some 1) (1, i) = none
    rw [wk _ _ (fun e => h1 (by rw [← e]))]; exact h.stale1 i
theorem move_cpl {n : NS} {W : RS} {D : Int → Option Sec} {nx : Int} (h : Cpl n W) (hI : Inv W D nx) {k : Int × Int} (hk : wC k) (a : Int) :
    (jV n k a D).1 = (decide (xf W k a), 0) ∧ Cpl (jV n k a D).2 (if xf W k a then yX W k else W) ∧ Inv (if xf W k a then yX W k else W) D nx := by
  unfold jV
  by_cases hl : xf W k a
  · rw [if_pos ((h.live hI hk a).2 hl), if_pos hl, decide_eq_true hl]
    have hl' := hl
    obtain ⟨ha, hwa, hnp⟩ := hl'
    have hnp' : ¬ prR W k := fun e => hnp ((QD W k).2 ⟨hk, e⟩)
    by_cases h1 : k.1 = 1
    · rw [if_pos h1]
      obtain ⟨i, hi, rfl⟩ : ∃ i, InB i ∧ k = (1, i) := by
        rcases wT hk with e | rfl | rfl | rfl | ⟨j, hj, rfl⟩
        · exact e
        · exact absurd h1 (by decide)
        · exact absurd h1 (by decide)
        · exact absurd h1 (by decide)
        · exact absurd h1 (by simp)
      have hd := hI.disk (1, i) hk (by rw [hwa]; exact ha) hnp'
      rw [hwa, yg] at hd
      rw [hd]
      have hhas : (W.all i).has = true := (hI.has i hi).2 (.inr (by rw [yK] at hwa; rw [hwa]; exact ha))
      have hmv : yX W (1, i) = { W with all := upd W.all i { W.all i with fresh := true } } := by unfold yX; rw [if_pos rfl]
      refine ⟨rfl, ?_, ?_⟩
      · rw [hmv]
        refine ⟨h.num, h.ver, h.kind, h.size, h.time, fun q hq => (h.at_ q hq).trans (by rw [← hmv]; exact (Kj W (1, i) hk).symm), fun j hj => ?_, h.stale, h.stale1, h.gone, ⟨fun j hj => ?_, h.ok.at1, h.ok.at2, h.ok.stale⟩⟩
        · show upd n.data i (some (W.all i).s) j = _
          dsimp only
          by_cases e : j = i
          · subst e; simp only [zW]; rfl
          · simp only [wk _ _ e]; exact h.data j hj
        · by_cases e : j = i
          · subst e; exact hi
          · exact h.ok.data j (by have hj' : upd n.data i (some (W.all i).s) j ≠ none := hj; rwa [wk _ _ e] at hj')
      · rw [hmv]
        refine hI.touch (fun j => j = i) (fun j e => e ▸ hi) ⟨i, rfl⟩ ⟨fun _ _ => rfl, rfl, rfl, rfl, rfl, rfl, rfl, rfl, rfl, fun j hj => ?_⟩ (fun j hj => ?_) (fun j hj => ?_) (fun j hj hn => ?_) hI.size (fun j hj m hm hle => ?_)
        · dsimp only; unfold upd; split
          · rename_i e; rw [e]
          · rfl
        · dsimp only
          by_cases e : j = i
          · subst e; rw [zW]; simp [hhas]
          · rw [wk _ _ e]; simp [e]
        · dsimp only
          by_cases e : j = i
          · subst e; rw [zW]; simp
          · rw [wk _ _ e]; simp [e]
        · dsimp only; rw [wk _ _ hn]
        · dsimp only at hle ⊢
          by_cases e : j = i
          · subst e; rw [zW]; exact hI.zero j hj m hm hle
          · rw [wk _ _ e]; exact hI.zero j hj m hm hle
    · rw [if_neg h1]
      have hsame : (yX W k).all = W.all ∧ (yX W k).gone = W.gone ∧ (yX W k).num = W.num ∧ (yX W k).ver = W.ver ∧ (yX W k).kind = W.kind ∧ (yX W k).size = W.size ∧ (yX W k).time = W.time := by
        unfold yX; rw [if_neg h1]
        split
        · exact ⟨rfl, rfl, rfl, rfl, rfl, rfl, rfl⟩
        · split
          · exact ⟨rfl, rfl, rfl, rfl, rfl, rfl, rfl⟩
          · split <;> exact ⟨rfl, rfl, rfl, rfl, rfl, rfl, rfl⟩
      obtain ⟨e1, e2, e3, e4, e5, e6, e7⟩ := hsame
      refine ⟨rfl, ?_, ?_⟩
      · exact h.setStale hk h1 (fun i _ => by rw [e1]) (fun q _ => Kj W k hk) (fun q hq hq1 => Kk W hk h1 hq hq1) e2 e3 e4 e5 _ (by rw [e6, e7, ← h.size, ← h.time]; rfl)
      · refine hI.mark (fun i _ => by rw [e1]) (fun q _ => Kj W k hk) (fun q hq hq1 hs => ?_) (fun q hq hq1 hq2 hs => ?_) e2 e3 e4 e5 (.inl ⟨e6, e7⟩) (by rw [e6]; exact hI.size) (by rw [e7]; exact hI.time) (fun i hi j hj hle => hI.zero i hi j hj (by rw [e6] at hle; exact hle))
        · rw [Kk W hk h1 hq hq1, hs]; simp
        · rw [Kk W hk h1 hq hq1] at hs
          by_cases e : q = k
          · subst e; exact .inr (hI.kid q hq hq1 hq2 (.inl (by rw [hwa]; exact ha)))
          · rw [if_neg e] at hs; exact .inl hs
  · rw [if_neg (fun e => hl ((h.live hI hk a).1 e)), if_neg hl, decide_eq_false hl]
    exact ⟨rfl, h, hI⟩
theorem Zj {n : NS} {W : RS} {D : Int → Option Sec} {nx : Int} (h : Cpl n W) (hI : Inv W D nx) (t : Int) (ht : 0 ≤ t ∧ t < 4294967296) : Cpl (jR n t) (j9 W t) ∧ Inv (j9 W t) D nx := by
  unfold jR j9
  rw [h.time]
  by_cases e : W.time ≠ t
  · rw [if_pos e, if_pos e]
    have hst : ∀ q, wC q → q.1 ≠ 1 → zG { W with time := t, self := ⟨W.self.at_, true⟩ } q = if q = (2, 0) then true else zG W q := by
      intro q hq hq1
      rcases wT hq with ⟨i, hi, rfl⟩ | rfl | rfl | rfl | ⟨j, hj, rfl⟩
      · exact absurd rfl hq1
      · rfl
      · rfl
      · rfl
      · rw [if_neg (by simp)]; rfl
    refine ⟨h.setStale (W1 := { W with time := t, self := ⟨W.self.at_, true⟩ }) yN (by decide) (fun _ _ => rfl) (fun _ _ => rfl) hst rfl rfl rfl rfl _ (by dsimp only; rw [show W.size = n.size from h.size.symm]; rfl), ?_⟩
    refine hI.mark (fun _ _ => rfl) (fun _ _ => rfl) (fun q hq hq1 hs => by rw [hst q hq hq1, hs]; simp) (fun q hq hq1 hq2 hs => ?_) rfl rfl rfl rfl (.inr rfl) hI.size ht hI.zero
    rw [hst q hq hq1, if_neg (fun e => hq2 (by rw [e]))] at hs
    exact .inl hs
  · rw [if_neg e, if_neg e]; exact ⟨h, hI⟩
theorem KD (W : RS) {k : Int × Int} (hk : wC k) (a : Int) {q : Int × Int} (hq : wC q) : qy (kW W k a) q = if q = k then a else qy W q := by
  rcases wT hk with ⟨i, hi, rfl⟩ | rfl | rfl | rfl | ⟨j, hj, rfl⟩
  · unfold kW; rw [if_pos rfl]
    rcases wT hq with ⟨i', hi', rfl⟩ | rfl | rfl | rfl | ⟨j, hj, rfl⟩
    · rw [yK, yK]; dsimp only
      by_cases e : i' = i
      · subst e; rw [zW, if_pos rfl]
      · rw [wk _ _ e, if_neg (by simpa using e)]
    · rw [if_neg (by simp)]; rfl
    · rw [if_neg (by simp)]; rfl
    · rw [if_neg (by simp)]; rfl
    · rw [if_neg (by simp)]; rfl
  · rcases wT hq with ⟨i', hi', rfl⟩ | rfl | rfl | rfl | ⟨j, hj, rfl⟩
    · rw [if_neg (by simp)]; rfl
    · rfl
    · rfl
    · rfl
    · rw [if_neg (by simp)]; rfl
  · rcases wT hq with ⟨i', hi', rfl⟩ | rfl | rfl | rfl | ⟨j, hj, rfl⟩
    · rw [if_neg (by simp)]; rfl
    · rfl
    · rfl
    · rfl
    · rw [if_neg (by simp)]; rfl
  · rcases wT hq with ⟨i', hi', rfl⟩ | rfl | rfl | rfl | ⟨j, hj, rfl⟩
    · rw [if_neg (by simp)]; rfl
    · rfl
    · rfl
    · rfl
    · rw [if_neg (by simp)]; rfl
  · unfold kW; rw [if_neg (by simp), if_pos rfl]
    rcases wT hq with ⟨i', hi', rfl⟩ | rfl | rfl | rfl | ⟨j', hj', rfl⟩
    · rw [if_neg (by simp)]; rfl
    · rw [if_neg (by simp)]; rfl
    · rw [if_neg (by simp)]; rfl
    · rw [if_neg (by simp)]; rfl
    · rw [kw, kw]; dsimp only
      by_cases e : j' = j
      · subst e; rw [zW, if_pos rfl]
      · rw [wk _ _ e, if_neg (by simpa using e)]
theorem putR_blk (W : RS) (k : Int × Int) (a : Int) (i : Int) : ((kW W k a).all i).has = (W.all i).has ∧ ((kW W k a).all i).s = (W.all i).s ∧ ((kW W k a).all i).fresh = (if k = (1, i) then false else (W.all i).fresh) := by
  unfold kW
  by_cases h1 : k.1 = 1
  · rw [if_pos h1]; dsimp only
    by_cases e : i = k.2
    · have ek : k = (1, i) := by rw [e]; exact Prod.ext h1 rfl
      rw [if_pos ek, e, zW]; exact ⟨rfl, rfl, rfl⟩
    · rw [wk _ _ e, if_neg (fun h => e (by rw [h]))]; exact ⟨rfl, rfl, rfl⟩
  · have hne : k ≠ (1, i) := fun h => h1 (by rw [h])
    rw [if_neg h1, if_neg hne]
    split
    · exact ⟨rfl, rfl, rfl⟩
    · split
      · exact ⟨rfl, rfl, rfl⟩
      · split <;> exact ⟨rfl, rfl, rfl⟩
theorem cm_cpl : ∀ (l : List (Int × Int)) (bs : List Int) (f : Int × Int → Option Int) (ds : List Int) (X : RS) (es : List Int), (∀ k ∈ l, wC k) → (∀ k, wC k → (f k).getD 0 = qy X k) → ds.Perm es →
    (∀ k, wC k → ((kb l bs (f, ds)).1 k).getD 0 = qy (zO l bs (X, es)).1 k) ∧ (kb l bs (f, ds)).2.Perm (zO l bs (X, es)).2 := by
  intro l
  induction l with
  | nil => intro bs f ds X es _ h hp; rw [K3, jg]; exact ⟨h, hp⟩
  | cons k l ih =>
    intro bs f ds X es hl h hp
    cases bs with
    | nil => exact ⟨h, hp⟩
    | cons a bs =>
      rw [kb, zO]
      have hk := hl k (by simp)
      refine ih bs _ _ _ _ (fun q hq => hl q (by simp [hq])) (fun q hq => ?_) ?_
      · dsimp only
        rw [KD X hk a hq]; unfold upd
        by_cases e : q = k
        · rw [if_pos e, if_pos e]; rfl
        · rw [if_neg e, if_neg e]; exact h q hq
      · dsimp only
        rw [h k hk]
        split
        · exact hp.append_right _
        · exact hp
theorem cmR_in : ∀ (l : List (Int × Int)) (bs : List Int) (s : RS × List Int), (∀ k ∈ l, wC k) → l.Nodup → l.length = bs.length →
    (∀ (i : Nat) k a, l[i]? = some k → bs[i]? = some a → qy (zO l bs s).1 k = a) ∧ (∀ k, wC k → k ∉ l → qy (zO l bs s).1 k = qy s.1 k) ∧
    (zO l bs s).2 = s.2 ++ nz (l.map (qy s.1)) := by
  intro l
  induction l with
  | nil =>
    intro bs s _ _ _
    rw [jg]
    exact ⟨fun i k a h => by simp at h, fun k _ _ => rfl, by simp [nz]⟩
  | cons k l ih =>
    intro bs s hl hn hlen
    cases bs with
    | nil => simp at hlen
    | cons a bs =>
      rw [zO]
      have hk := hl k (by simp)
      have hn' := List.nodup_cons.1 hn
      obtain ⟨h1, h2, h3⟩ := ih bs (kW s.1 k a, if qy s.1 k ≠ 0 then s.2 ++ [qy s.1 k] else s.2) (fun q hq => hl q (by simp [hq])) hn'.2 (by simpa using hlen)
      refine ⟨fun i q b hq hb => ?_, fun q hq hnq => ?_, ?_⟩
      · cases i with
        | zero =>
          obtain rfl : k = q := by simpa using hq
          obtain rfl : a = b := by simpa using hb
          rw [h2 k hk hn'.1]; dsimp only; rw [KD s.1 hk a hk, if_pos rfl]
        | succ i => exact h1 i q b (by simpa using hq) (by simpa using hb)
      · rw [h2 q hq (fun h => hnq (by simp [h]))]; dsimp only
        rw [KD s.1 hk a hq, if_neg (fun e => hnq (by simp [e]))]
      · rw [h3]; dsimp only
        have hm : l.map (qy (kW s.1 k a)) = l.map (qy s.1) := List.map_congr_left fun q hq => by
          rw [KD s.1 hk a (hl q (by simp [hq])), if_neg (fun e => hn'.1 (by rw [← e]; exact hq))]
        rw [hm, List.map_cons]
        unfold nz
        rw [List.filter_cons]
        by_cases e : qy s.1 k ≠ 0
        · rw [if_pos e, if_pos (by simpa using e), List.append_assoc]; rfl
        · rw [if_neg e, if_neg (by simpa using e)]
theorem M2 : ∀ (l : List (Int × Int)) (bs : List Int) (s : RS × List Int) (i : Int), l.length = bs.length → ((zO l bs s).1.all i).has = (s.1.all i).has ∧ ((zO l bs s).1.all i).s = (s.1.all i).s ∧
    (((zO l bs s).1.all i).fresh = true ↔ ((s.1.all i).fresh = true ∧ (1, i) ∉ l)) := by
  intro l
  induction l with
  | nil => intro bs s i _; rw [jg]; simp
  | cons k l ih =>
    intro bs s i hlen
    cases bs with
    | nil => simp at hlen
    | cons a bs =>
      rw [zO]
      have h := ih bs (kW s.1 k a, if qy s.1 k ≠ 0 then s.2 ++ [qy s.1 k] else s.2) i (by simpa using hlen)
      have h2 := putR_blk s.1 k a i
      refine ⟨h.1.trans h2.1, h.2.1.trans h2.2.1, ?_⟩
      rw [h.2.2, h2.2.2]
      by_cases e : k = (1, i)
      · rw [if_pos e, e]; simp
      · rw [if_neg e]; simp [Ne.symm e]
theorem sectorR_ext {W W1 : RS} (h : ∀ k, wC k → qy W1 k = qy W k) (hs : ∀ i, InB i → (W1.all i).s = (W.all i).s) (hn : W1.num = W.num) (hv : W1.ver = W.ver) (hk : W1.kind = W.kind) (hsz : W1.size = W.size) (ht : W1.time = W.time)
    {k : Int × Int} (hkp : wC k) : zB W1 k = zB W k := by
  rcases wT hkp with ⟨i, hi, rfl⟩ | rfl | rfl | rfl | ⟨j, hj, rfl⟩
  · rw [yg, yg, hs i hi]
  · exact xt h hn hv hk hsz ht
  · exact jS h zl (by decide) (by decide)
  · exact jS h zp (by decide) (by decide)
  · exact jS h (yF hj) (by simp) (by simp)
theorem XE {l m : List Int} (hl : jk l) (h : l = m) : xC l hl = ZM m := by subst h; exact (Wf hl).symm
theorem inoS_eq {x y : Ino} (hx : x.Ok) (h : x = y) : Zx x hx = Vu y := by subst h; exact (Kv hx).symm
theorem sector_eq {n : NS} {W : RS} (hok : NOk n) (hf : NFl n) (hat : ∀ k, wC k → (n.at_ k).getD 0 = qy W k) (hn : n.num = W.num) (hv : n.ver = W.ver) (hkd : n.kind = W.kind) (hsz : n.size = W.size) (ht : n.time = W.time)
    {k : Int × Int} (hk : wC k) (h1 : k.1 = 1 → (n.data k.2).getD Sec.zero = (W.all k.2).s) : yi n hok hf k = zB W k := by
  have hats : ∀ f : Int → Int × Int, (∀ j : Nat, j < 32 → wC (f j)) → KB n f = y6 W f := fun f hf => List.map_congr_left fun j hj => hat _ (hf j (List.mem_range.1 hj))
  unfold yi zB
  rcases wT hk with ⟨i, hi, rfl⟩ | rfl | rfl | rfl | ⟨j, hj, rfl⟩
  · rw [if_pos rfl, if_pos rfl]; exact h1 rfl
  · rw [if_neg (by decide), if_neg (by decide), if_neg (by decide), if_neg (by decide), if_neg (by decide), if_neg (by decide), if_neg (by decide), if_neg (by decide)]
    refine inoS_eq _ ?_
    unfold KA je
    rw [hn, hv, hkd, hsz, ht, show atN n (3, 0) = W.sg.at_ from hat (3, 0) zl, show atN n (4, 0) = W.db.at_ from hat (4, 0) zp]
    congr 1
    refine List.map_congr_left fun j hj => hat _ (yH ?_)
    have := List.mem_range.1 hj
    exact ⟨by omega, by omega⟩
  · rw [if_neg (by decide), if_neg (by decide), if_pos rfl, if_neg (by decide), if_neg (by decide), if_pos rfl]
    exact XE _ (hats _ xx)
  · rw [if_neg (by decide), if_neg (by decide), if_neg (by decide), if_pos rfl, if_neg (by decide), if_neg (by decide), if_neg (by decide), if_pos rfl]
    exact XE _ (hats _ xa)
  · rw [if_neg (by simp), if_pos rfl, if_neg (by simp), if_pos rfl]
    exact XE _ (hats _ (xw hj))
theorem allParts_nodup : allParts.Nodup := allParts_sorted.imp (fun {a b} h e => by subst e; exact K4 a h)
theorem pend_nodup (W : RS) : (zh W).Nodup := by classical rw [Zq]; exact allParts_nodup.sublist List.filter_sublist
theorem Jr (W : RS) {k : Int × Int} (hk : wC k) : qy (Zd W) k = qy W k := by
  rcases wT hk with ⟨i, hi, rfl⟩ | rfl | rfl | rfl | ⟨j, hj, rfl⟩
  · rfl
  · rfl
  · rfl
  · rfl
  · rw [kw, kw]
    show (lvT W 32 j).at_ = _
    unfold lvT; split <;> rfl
theorem Yj (W : RS) {k : Int × Int} (hk : wC k) (h1 : k.1 ≠ 1) : zG (Zd W) k = false := by
  rcases wT hk with ⟨i, hi, rfl⟩ | rfl | rfl | rfl | ⟨j, hj, rfl⟩
  · exact absurd rfl h1
  · rfl
  · rfl
  · rfl
  · unfold zG; rw [if_pos rfl]
    show (lvT W 32 j).stale = _
    unfold lvT; rw [if_pos (by omega)]
theorem Xv {W : RS} (hf : ∀ i, InB i → (W.all i).fresh = false) (hs : ∀ k, wC k → k.1 ≠ 1 → zG W k = false) {k : Int × Int} (hk : wC k) : ¬ prR W k := by
  have hfr : ∀ q, ¬ frB W q := fun q ⟨i, hi, h, _⟩ => by rw [hf i hi] at h; cases h
  have hch : ∀ q, wC q → q.1 ≠ 1 → ¬ chB W q := fun q hq h1 h => h.elim (fun e => by rw [hs q hq h1] at e; cases e) (hfr q)
  have hcl : ¬ chL W := fun ⟨j, h0, h1, h2⟩ => hch _ (yF ⟨h0, h1⟩) (by simp) h2
  unfold prR
  rcases wT hk with ⟨i, hi, rfl⟩ | rfl | rfl | rfl | ⟨j, hj, rfl⟩
  · rw [if_pos rfl, hf i hi]; simp
  · rw [if_neg (by decide), if_neg (by decide), if_neg (by decide), if_neg (by decide), hs _ yN (by decide), hs _ zl (by decide), hs _ zp (by decide)]
    rintro (⟨i, hi, h⟩ | h | h | h | h)
    · rw [hf i hi] at h; cases h
    · cases h
    · cases h
    · cases h
    · exact hcl h
  · rw [if_neg (by decide), if_neg (by decide), if_pos rfl]; exact fun h => hch _ zl (by decide) h.1
  · rw [if_neg (by decide), if_neg (by decide), if_neg (by decide), if_pos rfl, hs _ zp (by decide)]
    rintro ⟨h | h, -⟩
    · cases h
    · exact hcl h
  · rw [if_neg (by simp), if_pos rfl]; exact fun h => hch _ (yF hj) (by simp) h.1
theorem Vj {W : RS} (h : ¬ prR W (2, 0)) : (∀ i, InB i → (W.all i).fresh = false) ∧ ∀ k, wC k → k.1 ≠ 1 → zG W k = false := by
  unfold prR at h
  rw [if_neg (by decide), if_neg (by decide), if_neg (by decide), if_neg (by decide)] at h
  constructor
  · intro i hi
    cases e : (W.all i).fresh with
    | false => rfl
    | true => exact absurd (.inl ⟨i, hi, e⟩) h
  · intro k hk h1
    cases e : zG W k with
    | false => rfl
    | true =>
      rcases wT hk with ⟨i, hi, rfl⟩ | rfl | rfl | rfl | ⟨j, hj, rfl⟩
      · exact absurd rfl h1
      · exact absurd (.inr (.inl e)) h
      · exact absurd (.inr (.inr (.inl e))) h
      · exact absurd (.inr (.inr (.inr (.inl e)))) h
      · exact absurd (.inr (.inr (.inr (.inr ⟨j, hj.1, hj.2, .inl e⟩)))) h
theorem Kd {f : Int × Int → Sec} : ∀ (l : List ((Int × Int) × Int)) (D : Int → Option Sec) (a : Int), (∀ p ∈ l, p.2 ≠ a) → xq f D l a = D a := by
  intro l
  induction l with
  | nil => intro D a _; rfl
  | cons p l ih =>
    intro D a h
    unfold xq at ih ⊢
    rw [List.foldl_cons, ih _ _ (fun q hq => h q (by simp [hq])), wk _ _ (Ne.symm (h p (by simp)))]
theorem putDs_at {f : Int × Int → Sec} : ∀ (l : List ((Int × Int) × Int)) (D : Int → Option Sec) (k : Int × Int) (a : Int), l.Pairwise (fun p q => p.2 ≠ q.2) → (k, a) ∈ l → xq f D l a = some (f k) := by
  intro l
  induction l with
  | nil => intro D k a _ h; cases h
  | cons p l ih =>
    intro D k a hp h
    have hp' := List.pairwise_cons.1 hp
    rcases List.mem_cons.1 h with rfl | h
    · have := Kd (f := f) l (upd D a (some (f k))) a (fun q hq => Ne.symm (hp'.1 q hq))
      unfold xq at this ⊢
      rw [List.foldl_cons, this, zW]
    · have := ih (upd D p.2 (some (f p.1))) k a hp'.2 h
      unfold xq at this ⊢
      rw [List.foldl_cons, this]
theorem Z9 {l : List Int} : ∀ (D : Int → Option Sec) (a : Int), a ∉ l → QW D l a = D a := by
  induction l with
  | nil => intro D a _; rfl
  | cons g l ih =>
    intro D a h
    unfold QW at ih ⊢
    rw [List.foldl_cons, ih _ _ (fun hm => h (by simp [hm])), wk _ _ (fun e => h (by simp [e]))]
theorem delDs_mem {l : List Int} : ∀ (D : Int → Option Sec) (a : Int), a ∈ l → QW D l a = none := by
  induction l with
  | nil => intro D a h; cases h
  | cons g l ih =>
    intro D a h
    by_cases hm : a ∈ l
    · have := ih (upd D g none) a hm
      unfold QW at this ⊢
      rw [List.foldl_cons, this]
    · have hg : a = g := by rcases List.mem_cons.1 h with e | e
                            · exact e
                            · exact absurd e hm
      have := Z9 (l := l) (upd D g none) a hm
      unfold QW at this ⊢
      rw [List.foldl_cons, this, hg, zW]
theorem mem_srt {l : List Int} {a : Int} : a ∈ srt l ↔ a ∈ l := (List.mergeSort_perm l _).mem_iff
theorem mem_nz {l : List Int} {a : Int} : a ∈ nz l ↔ a ∈ l ∧ a ≠ 0 := by unfold nz; rw [List.mem_filter, decide_eq_true_eq]
section
variable {n : NS} {W : RS} {D : Int → Option Sec} {nx : Int}
theorem J6 (h : Cpl n W) (hI : Inv W D nx) {l : List (Int × Int)} {ats : List Int} (hl : zh W = l) (hats : ats = jX nx l.length) (hnx : nx + l.length ≤ 65536) (hr : ∀ a ∈ ats, 1 ≤ a ∧ a ≤ 65535) :
    Cpl (Q3 n ats) (zE W ats) ∧ ROk (yu W ats) ∧ srt (xi n ats) = srt (xh W ats) ∧
    (∀ (hok : NOk n) (hfl : NFl n), ∀ k ∈ l, yi (Wk n ats) (xz hok hr) (WH hfl ats) k = zB (yu W ats) k) := by
  have hlp : ∀ k ∈ l, wC k := fun k hk => ZX (hl ▸ hk)
  have hal : ats.length = l.length := by rw [hats, ZD]
  have hpp : yE n = l := (h.parts hI.has).trans hl
  have hc := cm_cpl l ats n.at_ n.gone W W.gone hlp h.at_ h.gone
  have hnm := WM l ats (W, W.gone)
  have hmid : yu W ats = (zO l ats (W, W.gone)).1 := by unfold yu; rw [hl]
  have hmn : Wk n ats = { n with at_ := (kb l ats (n.at_, n.gone)).1 } := by unfold Wk; rw [hpp]
  have hat : ∀ k, wC k → ((Wk n ats).at_ k).getD 0 = qy (yu W ats) k := by rw [hmid, hmn]; exact hc.1
  have hblk := fun i => M2 l ats (W, W.gone) i hal.symm
  have hfr : ∀ i, InB i → ((yu W ats).all i).fresh = false := by
    intro i hi
    cases e : ((yu W ats).all i).fresh with
    | false => rfl
    | true =>
      rw [hmid] at e
      have := (hblk i).2.2.1 e
      exact absurd (by rw [← hl]; exact (QD W _).2 ⟨yH hi, jN.2 this.1⟩) this.2
  have hmok := xz h.ok hr
  refine ⟨?_, ?_, ?_, ?_⟩
  · have hcn : Q3 n ats = { Wk n ats with data := fun _ => none, stale := fun _ => none, gone := [] } := rfl
    have hcok := commitN_ok h.ok hr
    refine ⟨?_, ?_, ?_, ?_, ?_, fun k hk => ?_, fun i hi => ?_, fun k hk h1 => ?_, fun i => rfl, List.Perm.refl _, hcok⟩
    · show n.num = _; rw [show (zE W ats).num = (yu W ats).num from rfl, hmid, hnm.1]; exact h.num
    · show n.ver = _; rw [show (zE W ats).ver = (yu W ats).ver from rfl, hmid, hnm.2.1]; exact h.ver
    · show n.kind = _; rw [show (zE W ats).kind = (yu W ats).kind from rfl, hmid, hnm.2.2.1]; exact h.kind
    · show n.size = _; rw [show (zE W ats).size = (yu W ats).size from rfl, hmid, hnm.2.2.2.1]; exact h.size
    · show n.time = _; rw [show (zE W ats).time = (yu W ats).time from rfl, hmid, hnm.2.2.2.2]; exact h.time
    · show ((Wk n ats).at_ k).getD 0 = _; rw [hat k hk]; exact (Jr _ hk).symm
    · show none = _
      rw [show (zE W ats).all = (yu W ats).all from rfl, hfr i hi]; rfl
    · show none ≠ none ↔ _
      rw [show zE W ats = Zd (yu W ats) from rfl, Yj _ hk h1]; simp
  · refine ⟨?_, ?_, ?_, ?_, ?_, fun k hk => ?_⟩
    · rw [hmid, hnm.1]; dsimp only; rw [hI.num]; omega
    · rw [hmid, hnm.2.1]; dsimp only; rw [hI.ver]; omega
    · rw [hmid, hnm.2.2.1]; exact hI.kind
    · rw [hmid, hnm.2.2.2.1]; exact hI.size
    · rw [hmid, hnm.2.2.2.2]; exact hI.time
    · rw [← hat k hk]; exact XV hmok k
  · unfold xi xh
    rw [hpp, hl]; exact KV hc.2
  · intro hok hfl k hk
    refine sector_eq _ _ hat ?_ ?_ ?_ ?_ ?_ (hlp k hk) (fun h1 => ?_)
    · show n.num = _; rw [hmid, hnm.1]; exact h.num
    · show n.ver = _; rw [hmid, hnm.2.1]; exact h.ver
    · show n.kind = _; rw [hmid, hnm.2.2.1]; exact h.kind
    · show n.size = _; rw [hmid, hnm.2.2.2.1]; exact h.size
    · show n.time = _; rw [hmid, hnm.2.2.2.2]; exact h.time
    · show (n.data k.2).getD _ = _
      have hkp := (QD W k).1 (hl ▸ hk)
      obtain ⟨i, hi, rfl⟩ : ∃ i, InB i ∧ k = (1, i) := by
        rcases wT hkp.1 with e | rfl | rfl | rfl | ⟨j, hj, rfl⟩
        · exact e
        · exact absurd h1 (by decide)
        · exact absurd h1 (by decide)
        · exact absurd h1 (by decide)
        · exact absurd h1 (by simp)
      rw [h.data i hi, if_pos (jN.1 hkp.2), hmid, (hblk i).2.1]; rfl
theorem J5 (hI : Inv W D nx) {l : List (Int × Int)} {ats : List Int} (hl : zh W = l) (hats : ats = jX nx l.length) :
    Inv (zE W ats) (QW (xq (zB (yu W ats)) D (l.zip ats)) (srt (xh W ats))) (nx + l.length) ∧ (∀ k, wC k → ¬ prR (zE W ats) k) ∧ (∀ k, wC k → (k.1 ≠ 1 → k.1 ≠ 2 → jp W k) → (k.1 = 1 → (W.all k.2).has = true) → qy (zE W ats) k ≠ 0) ∧ (zE W ats).gone = [] ∧ (∀ i, ((zE W ats).all i).has = (W.all i).has ∧ ((zE W ats).all i).s = (W.all i).s) := by
  have hnx := hI.nx
  have hlp : ∀ k ∈ l, wC k := fun k hk => ZX (hl ▸ hk)
  have hlm : ∀ k, k ∈ l ↔ wC k ∧ prR W k := fun k => by rw [← hl]; exact QD W k
  have hal : ats.length = l.length := by rw [hats, ZD]
  have hatg : ∀ i : Nat, i < l.length → ats[i]? = some (nx + i) := fun i hi => by rw [hats]; exact Ju nx hi
  have hnm := WM l ats (W, W.gone)
  have hmid : yu W ats = (zO l ats (W, W.gone)).1 := by unfold yu; rw [hl]
  obtain ⟨hin, hout, hdd⟩ := cmR_in l ats (W, W.gone) hlp (hl ▸ pend_nodup W) hal.symm
  have hdead : xh W ats = W.gone ++ nz (l.map (qy W)) := by unfold xh; rw [hl]; exact hdd
  rw [← hmid] at hin hout hnm
  have hblk : ∀ i, ((yu W ats).all i).has = (W.all i).has ∧ ((yu W ats).all i).s = (W.all i).s ∧ (((yu W ats).all i).fresh = true ↔ ((W.all i).fresh = true ∧ (1, i) ∉ l)) := by
    intro i; have := M2 l ats (W, W.gone) i hal.symm; rw [← hmid] at this; exact this
  have hfr : ∀ i, InB i → ((yu W ats).all i).fresh = false := by
    intro i hi
    cases e : ((yu W ats).all i).fresh with
    | false => rfl
    | true =>
      have := (hblk i).2.2.1 e
      exact absurd ((hlm _).2 ⟨yH hi, jN.2 this.1⟩) this.2
  have hnew : ∀ k ∈ l, ∃ i : Nat, i < l.length ∧ l[i]? = some k ∧ qy (yu W ats) k = nx + i := by
    intro k hk
    obtain ⟨i, hi⟩ := List.mem_iff_getElem?.1 hk
    have hlt := (List.getElem?_eq_some_iff.1 hi).1
    exact ⟨i, hlt, hi, hin i k _ hi (hatg i hlt)⟩
  have hold : ∀ k, wC k → k ∉ l → qy (yu W ats) k = qy W k := hout
  have hC : ∀ k, wC k → qy (zE W ats) k = qy (yu W ats) k := fun k hk => Jr _ hk
  have hpr : ∀ k, wC k → ¬ prR (zE W ats) k := fun k hk => Xv (W := zE W ats) (fun i hi => hfr i hi) (fun q hq h1 => Yj (yu W ats) hq h1) hk
  have hkb : ∀ k, jp (zE W ats) k ↔ jp W k := V0 (fun i hi => (hblk i).1)
  have hplace : ∀ k, wC k → (k.1 ≠ 1 → k.1 ≠ 2 → jp W k) → (k.1 = 1 → (W.all k.2).has = true) → qy (zE W ats) k ≠ 0 := by
    intro k hk h1 h2
    rw [hC k hk]
    by_cases hm : k ∈ l
    · obtain ⟨i, -, -, e⟩ := hnew k hm
      rw [e]; omega
    · rw [hold k hk hm]
      have hnp : ¬ prR W k := fun e => hm ((hlm k).2 ⟨hk, e⟩)
      by_cases e1 : k.1 = 1
      · rcases wT hk with ⟨i, hi, rfl⟩ | rfl | rfl | rfl | ⟨j, hj, rfl⟩
        · exact ((hI.has i hi).1 (h2 rfl)).resolve_left (fun e => hnp (jN.2 e))
        · exact absurd e1 (by decide)
        · exact absurd e1 (by decide)
        · exact absurd e1 (by decide)
        · exact absurd e1 (by simp)
      · exact (hI.place k hk e1 (h1 e1)).resolve_right hnp
  have hdm : ∀ a, a ∈ srt (xh W ats) ↔ (a ∈ W.gone ∨ ∃ k ∈ l, qy W k = a ∧ a ≠ 0) := by
    intro a
    rw [mem_srt, hdead, List.mem_append, mem_nz, List.mem_map]
    refine or_congr Iff.rfl ⟨?_, ?_⟩
    · rintro ⟨⟨k, hk, e⟩, h0⟩; exact ⟨k, hk, e, h0⟩
    · rintro ⟨k, hk, e, h0⟩; exact ⟨⟨k, hk, e⟩, h0⟩
  have hdlt : ∀ a ∈ srt (xh W ats), a < nx := by
    intro a ha
    rcases (hdm a).1 ha with h | ⟨k, hk, e, h0⟩
    · exact (hI.rngG a h).2
    · have := hI.rngA k (hlp k hk) (by rw [e]; exact h0); rw [e] at this; exact this.2
  have hzip : ∀ p ∈ l.zip ats, ∃ i : Nat, i < l.length ∧ l[i]? = some p.1 ∧ p.2 = nx + i := by
    intro p hp
    obtain ⟨i, hi⟩ := List.mem_iff_getElem?.1 hp
    rw [List.getElem?_zip_eq_some] at hi
    have hlt := (List.getElem?_eq_some_iff.1 hi.1).1
    refine ⟨i, hlt, hi.1, ?_⟩
    have := hi.2; rw [hatg i hlt] at this; exact (Option.some.inj this).symm
  have hzp : (l.zip ats).Pairwise (fun p q => p.2 ≠ q.2) := by
    rw [List.pairwise_iff_getElem]
    intro i j hi hj hij
    rw [List.length_zip] at hi hj
    rw [List.getElem_zip, List.getElem_zip]
    dsimp only
    have e1 := hatg i (by omega)
    have e2 := hatg j (by omega)
    rw [List.getElem?_eq_getElem (by omega)] at e1 e2
    rw [Option.some.inj e1, Option.some.inj e2]; omega
  have hsecS : ∀ k, wC k → zB (zE W ats) k = zB (yu W ats) k := fun k hk => sectorR_ext hC (fun i _ => rfl) rfl rfl rfl rfl rfl hk
  have hdisk : ∀ k, wC k → qy (zE W ats) k ≠ 0 → QW (xq (zB (yu W ats)) D (l.zip ats)) (srt (xh W ats)) (qy (zE W ats) k) = some (zB (zE W ats) k) := by
    intro k hk h0
    rw [hsecS k hk]
    rw [hC k hk] at h0 ⊢
    by_cases hm : k ∈ l
    · obtain ⟨i, hlt, hki, e⟩ := hnew k hm
      rw [e, Z9 _ _ (fun hd => by have := hdlt _ hd; omega)]
      refine putDs_at _ _ _ _ hzp ?_
      exact List.mem_of_getElem? (i := i) (by rw [List.getElem?_zip_eq_some]; exact ⟨hki, hatg i hlt⟩)
    · rw [hold k hk hm] at h0 ⊢
      have hnp : ¬ prR W k := fun e => hm ((hlm k).2 ⟨hk, e⟩)
      have hlt := (hI.rngA k hk h0).2
      rw [Z9 _ _ (fun hd => ?_), Kd _ _ _ (fun p hp => ?_), hI.disk k hk h0 hnp]
      · congr 1
        rcases wT hk with ⟨i, hi, rfl⟩ | rfl | rfl | rfl | ⟨j, hj, rfl⟩
        · rw [yg, yg, (hblk i).2.1]
        · have hnone := Vj hnp
          refine (xt (fun q hq => hold q hq (fun hq2 => ?_)) hnm.1 hnm.2.1 hnm.2.2.1 hnm.2.2.2.1 hnm.2.2.2.2).symm
          exact Xv hnone.1 hnone.2 hq ((hlm q).1 hq2).2
        · have hkid := hI.kid _ zl (by decide) (by decide) (.inl h0)
          unfold prR at hnp; rw [if_neg (by decide), if_neg (by decide), if_pos rfl] at hnp
          have hnf : ∀ i, InB i → zF i = (3, 0) → (W.all i).fresh = false := fun i hi ha => by
            cases e : (W.all i).fresh with
            | false => rfl
            | true => exact absurd ⟨.inr ⟨i, hi, e, ha⟩, hkid⟩ hnp
          have : y6 (yu W ats) (zV 1 0) = y6 W (zV 1 0) := by
            unfold y6
            refine List.map_congr_left fun j hj => ?_
            have hj := List.mem_range.1 hj
            refine hold _ (xx j hj) (fun hm2 => ?_)
            have hp2 := ((hlm _).1 hm2).2
            unfold zV at hp2
            rw [if_neg (by decide), if_pos rfl, jN] at hp2
            rw [hnf (8 + 0 * 32 + j) ⟨by omega, by omega⟩ (Wy.2 (by unfold wW; rw [if_neg (by omega), if_neg (by omega), if_pos (by omega)]))] at hp2
            cases hp2
          unfold zB
          rw [if_neg (by decide), if_neg (by decide), if_pos rfl, if_neg (by decide), if_neg (by decide), if_pos rfl, this]
        · have hkid := hI.kid _ zp (by decide) (by decide) (.inl h0)
          unfold prR at hnp; rw [if_neg (by decide), if_neg (by decide), if_neg (by decide), if_pos rfl] at hnp
          have : y6 (yu W ats) (fun j => (5, j)) = y6 W (fun j => (5, j)) := by
            unfold y6
            refine List.map_congr_left fun j hj => ?_
            have hj := List.mem_range.1 hj
            refine hold _ (xa j hj) (fun hm2 => ?_)
            have hp2 := ((hlm _).1 hm2).2
            unfold prR at hp2
            rw [if_neg (by simp), if_pos rfl] at hp2
            exact hnp ⟨.inr ⟨j, by omega, by omega, hp2.1⟩, hkid⟩
          unfold zB
          rw [if_neg (by decide), if_neg (by decide), if_neg (by decide), if_pos rfl, if_neg (by decide), if_neg (by decide), if_neg (by decide), if_pos rfl, this]
        · have hkid := hI.kid _ (yF hj) (by simp) (by simp) (.inl h0)
          unfold prR at hnp; rw [if_neg (by simp), if_pos rfl] at hnp
          have hnf : ∀ i, InB i → zF i = (5, j) → (W.all i).fresh = false := fun i hi ha => by
            cases e : (W.all i).fresh with
            | false => rfl
            | true => exact absurd ⟨.inr ⟨i, hi, e, ha⟩, hkid⟩ hnp
          have : y6 (yu W ats) (zV 2 j) = y6 W (zV 2 j) := by
            unfold y6
            refine List.map_congr_left fun m hm3 => ?_
            have hm3 := List.mem_range.1 hm3
            refine hold _ (xw hj m hm3) (fun hm2 => ?_)
            have hp2 := ((hlm _).1 hm2).2
            unfold zV at hp2
            rw [if_neg (by decide), if_neg (by decide), jN] at hp2
            rw [hnf (40 + j * 32 + m) ⟨by omega, by omega⟩ (Wx.2 (by unfold wW; rw [if_neg (by omega), if_neg (by omega), if_neg (by omega), if_pos (by omega)]; exact ⟨rfl, by dsimp only; omega⟩))] at hp2
            cases hp2
          unfold zB
          rw [if_neg (by simp), if_pos rfl, if_neg (by simp), if_pos rfl]
          exact congrArg ZM this.symm
      · obtain ⟨i, -, -, e⟩ := hzip p hp
        omega
      · rcases (hdm _).1 hd with hg | ⟨q, hq, e, -⟩
        · exact hI.gdj _ hg k hk rfl
        · exact hm (by rw [hI.inj k q hk (hlp q hq) h0 e.symm]; exact hq)
  refine ⟨⟨?_, ?_, ?_, ?_, ?_, ?_, ?_, ?_, ?_, ?_, ?_, ?_, ?_, ?_, ?_, ?_, ?_, ?_, ?_⟩, hpr, hplace, rfl, fun i => ⟨(hblk i).1, (hblk i).2.1⟩⟩
  · intro i hi
    rw [show ((zE W ats).all i) = (yu W ats).all i from rfl, (hblk i).1, hfr i hi]
    have hwi : ((yu W ats).all i).at_ = qy (zE W ats) (1, i) := by rw [hC _ (yH hi)]; rfl
    constructor
    · intro hh
      right; rw [hwi]
      exact hplace (1, i) (yH hi) (fun e => absurd rfl e) (fun _ => hh)
    · rintro (e | e)
      · cases e
      · rw [hI.has i hi]
        by_cases hm : (1, i) ∈ l
        · exact .inl (jN.1 ((hlm _).1 hm).2)
        · right
          rw [hwi, hC _ (yH hi), hold _ (yH hi) hm] at e; exact e
  · intro i hi hh
    rw [show ((zE W ats).all i) = (yu W ats).all i from rfl, (hblk i).2.1]
    rw [show ((zE W ats).all i) = (yu W ats).all i from rfl, (hblk i).1] at hh
    exact hI.hole i hi hh
  · intro k hk h1 h2 hh
    rw [hkb]
    rcases hh with hh | hh
    · rw [hC k hk] at hh
      by_cases hm : k ∈ l
      · have hp := ((hlm k).1 hm).2
        unfold prR at hp
        rw [if_neg h1] at hp
        rcases wT hk with ⟨i, hi, rfl⟩ | rfl | rfl | rfl | ⟨j, hj, rfl⟩
        · exact absurd rfl h1
        · exact absurd rfl h2
        · rw [if_neg (by decide), if_pos rfl] at hp; exact hp.2
        · rw [if_neg (by decide), if_neg (by decide), if_pos rfl] at hp; exact hp.2
        · rw [if_pos rfl] at hp; exact hp.2
      · rw [hold k hk hm] at hh; exact hI.kid k hk h1 h2 (.inl hh)
    · rw [show zE W ats = Zd (yu W ats) from rfl, Yj _ hk h1] at hh; cases hh
  · intro k hk h1 hh
    left
    exact hplace k hk (fun _ h2 => (hkb k).1 (hh h2)) (fun e => absurd e h1)
  · intro k hk h0
    rw [hC k hk] at h0 ⊢
    by_cases hm : k ∈ l
    · obtain ⟨i, hlt, -, e⟩ := hnew k hm; rw [e]; omega
    · rw [hold k hk hm] at h0 ⊢; have := hI.rngA k hk h0; omega
  · intro a ha; cases ha
  · intro k q hk hq h0 e
    rw [hC k hk] at h0 e; rw [hC q hq] at e
    by_cases hm : k ∈ l
    · obtain ⟨i, hlt, hki, ei⟩ := hnew k hm
      by_cases hm2 : q ∈ l
      · obtain ⟨j, hlt2, hqj, ej⟩ := hnew q hm2
        obtain rfl : i = j := by omega
        rw [hki] at hqj; exact Option.some.inj hqj
      · rw [hold q hq hm2] at e
        by_cases hz : qy W q = 0
        · omega
        · have := hI.rngA q hq hz; omega
    · by_cases hm2 : q ∈ l
      · obtain ⟨j, hlt2, hqj, ej⟩ := hnew q hm2
        rw [hold k hk hm] at h0 e
        have := hI.rngA k hk h0; omega
      · rw [hold k hk hm] at h0 e; rw [hold q hq hm2] at e; exact hI.inj k q hk hq h0 e
  · exact List.nodup_nil
  · intro a ha; cases ha
  · intro k hk h0 _; exact hdisk k hk h0
  · intro a
    constructor
    · intro hne
      right
      by_cases hd : a ∈ srt (xh W ats)
      · rw [delDs_mem _ _ hd] at hne; exact absurd rfl hne
      · rw [Z9 _ _ hd] at hne
        by_cases hz : ∃ p ∈ l.zip ats, p.2 = a
        · obtain ⟨p, hp, e⟩ := hz
          obtain ⟨i, hlt, hpi, e2⟩ := hzip p hp
          have hpm := List.mem_of_getElem? hpi
          refine ⟨p.1, hlp _ hpm, ?_, by omega⟩
          rw [hC _ (hlp _ hpm), hin i p.1 _ hpi (hatg i hlt), ← e, e2]
        · rw [Kd _ _ _ (fun p hp e => hz ⟨p, hp, e⟩)] at hne
          rcases (hI.keys a).1 hne with hg | ⟨k, hk, e, h0⟩
          · exact absurd ((hdm a).2 (.inl hg)) hd
          · by_cases hm : k ∈ l
            · exact absurd ((hdm a).2 (.inr ⟨k, hm, e, h0⟩)) hd
            · exact ⟨k, hk, by rw [hC k hk, hold k hk hm, e], h0⟩
    · rintro (hg | ⟨k, hk, e, h0⟩)
      · cases hg
      · rw [← e, hdisk k hk (by rw [e]; exact h0)]; simp
  · intro hg; exact absurd rfl hg
  · intro i hi j hj hle
    rw [show ((zE W ats).all i) = (yu W ats).all i from rfl, (hblk i).2.1]
    exact hI.zero i hi j hj (by rw [show (zE W ats).size = (yu W ats).size from rfl, hnm.2.2.2.1] at hle; exact hle)
  · rw [show (zE W ats).num = (yu W ats).num from rfl, hnm.1]; exact hI.num
  · rw [show (zE W ats).ver = (yu W ats).ver from rfl, hnm.2.1]; exact hI.ver
  · rw [show (zE W ats).kind = (yu W ats).kind from rfl, hnm.2.2.1]; exact hI.kind
  · rw [show (zE W ats).size = (yu W ats).size from rfl, hnm.2.2.2.1]; exact hI.size
  · rw [show (zE W ats).time = (yu W ats).time from rfl, hnm.2.2.2.2]; exact hI.time
  · omega
end
theorem ZV (W : RS) : ∀ (xs : List Int) (b : Int) (f : Int × Int → Option Int), (∀ (j : Nat) x, xs[j]? = some x → x = qy W (1, b + j)) →
    ∀ k, jx xs b f k = if k.1 = 1 ∧ b ≤ k.2 ∧ k.2 < b + xs.length ∧ qy W k ≠ 0 then some (qy W k) else f k := by
  intro xs
  induction xs with
  | nil => intro b f _ k; rw [if_neg (by rintro ⟨-, h1, h2, -⟩; simp at h2; omega)]; rfl
  | cons x xs ih =>
    intro b f h k
    have hx : x = qy W (1, b) := by have := h 0 x rfl; simpa using this
    unfold jx
    rw [ih (b + 1) _ (fun j y hy => by rw [h (j + 1) y (by simpa using hy)]; congr 2; push_cast; omega) k]
    have hlen : ((x :: xs).length : Int) = xs.length + 1 := by simp
    rw [hlen]
    by_cases h1 : k.1 = 1 ∧ b + 1 ≤ k.2 ∧ k.2 < b + 1 + xs.length ∧ qy W k ≠ 0
    · rw [if_pos h1, if_pos ⟨h1.1, by omega, by omega, h1.2.2.2⟩]
    · rw [if_neg h1]
      by_cases hk : k = (1, b)
      · subst hk
        rw [← hx]
        by_cases e : x = 0
        · rw [if_neg (by simpa using e), if_neg (fun h => h.2.2.2 e)]
        · rw [if_pos e, zW, if_pos ⟨rfl, Int.le_refl _, by dsimp only; omega, e⟩]
      · have hne : ¬ (k.1 = 1 ∧ b ≤ k.2 ∧ k.2 < b + (xs.length + 1) ∧ qy W k ≠ 0) := by
          rintro ⟨a1, a2, a3, a4⟩
          by_cases e : k.2 = b
          · exact hk (Prod.ext a1 e)
          · exact h1 ⟨a1, by omega, by omega, a4⟩
        rw [if_neg hne]
        split
        · rw [wk _ _ hk]
        · rfl
theorem JT (W : RS) (q : Int × Int) (f : Int × Int → Option Int) (k : Int × Int) : Xt q (qy W q) f k = if k = q ∧ qy W k ≠ 0 then some (qy W k) else f k := by
  unfold Xt
  by_cases e : qy W q = 0
  · rw [if_pos e, if_neg (by rintro ⟨rfl, h⟩; exact h e)]
  · rw [if_neg e]
    by_cases hk : k = q
    · subst hk; rw [zW, if_pos ⟨rfl, e⟩]
    · rw [wk _ _ hk, if_neg (fun h => hk h.1)]
theorem leafF_spec (W : RS) (l2 : List Int) (ll : Nat → List Int) (f : Int × Int → Option Int) (h2 : ∀ j : Nat, j < 32 → l2.getD j 0 = qy W (5, j)) (hl : ∀ j : Nat, j < 32 → ll j = y6 W (zV 2 j)) :
    ∀ m : Nat, m ≤ 32 → ∀ k, Wo l2 ll m f k = if (k.1 = 5 ∧ 0 ≤ k.2 ∧ k.2 < m ∧ qy W k ≠ 0) ∨ (k.1 = 1 ∧ 40 ≤ k.2 ∧ k.2 < 40 + 32 * m ∧ qy W k ≠ 0) then some (qy W k) else f k := by
  intro m
  induction m with
  | zero => intro _ k; rw [if_neg (by rintro (⟨-, h1, h2, -⟩ | ⟨-, h1, h2, -⟩) <;> omega)]; rfl
  | succ m ih =>
    intro hm k
    unfold Wo
    rw [ZV W (ll m) (k7 2 m) _ (fun j x hx => by
      rw [hl m (by omega)] at hx
      have hj : j < 32 := by have := (List.getElem?_eq_some_iff.1 hx).1; simpa [y6] using this
      rw [W0 W _ hj] at hx
      rw [← Option.some.inj hx]; unfold zV k7; rfl) k]
    have hbl : k7 2 (m : Int) = 40 + m * 32 := by unfold k7; rw [if_neg (by decide), if_neg (by decide)]
    have hll : (ll m).length = 32 := by rw [hl m (by omega)]; simp [y6]
    rw [hbl, hll, h2 m (by omega)]
    by_cases c1 : k.1 = 1 ∧ 40 + (m : Int) * 32 ≤ k.2 ∧ k.2 < 40 + (m : Int) * 32 + (32 : Nat) ∧ qy W k ≠ 0
    · rw [if_pos c1, if_pos (.inr ⟨c1.1, by omega, by push_cast at c1 ⊢; omega, c1.2.2.2⟩)]
    · rw [if_neg c1]
      have ih' := ih (by omega) k
      have key : (if qy W (5, (m : Int)) = 0 then Wo l2 ll m f else upd (Wo l2 ll m f) (5, (m : Int)) (some (qy W (5, (m : Int))))) k = if k = (5, (m : Int)) ∧ qy W k ≠ 0 then some (qy W k) else Wo l2 ll m f k := by
        by_cases e : qy W (5, (m : Int)) = 0
        · rw [if_pos e, if_neg (by rintro ⟨rfl, h⟩; exact h e)]
        · rw [if_neg e]
          by_cases hk : k = (5, (m : Int))
          · subst hk; rw [zW, if_pos ⟨rfl, e⟩]
          · rw [wk _ _ hk, if_neg (fun h => hk h.1)]
      rw [key, ih']
      by_cases c2 : k = (5, (m : Int)) ∧ qy W k ≠ 0
      · rw [if_pos c2, if_pos (.inl ⟨by rw [c2.1], by rw [c2.1]; dsimp only; omega, by rw [c2.1]; push_cast; (try dsimp only); omega, c2.2⟩)]
      · rw [if_neg c2]
        by_cases c3 : (k.1 = 5 ∧ 0 ≤ k.2 ∧ k.2 < m ∧ qy W k ≠ 0) ∨ (k.1 = 1 ∧ 40 ≤ k.2 ∧ k.2 < 40 + 32 * m ∧ qy W k ≠ 0)
        · rw [if_pos c3, if_pos (c3.imp (fun h => ⟨h.1, h.2.1, by push_cast; omega, h.2.2.2⟩) (fun h => ⟨h.1, h.2.1, by push_cast; omega, h.2.2.2⟩))]
        · rw [if_neg c3, if_neg]
          rintro (⟨a1, a2, a3, a4⟩ | ⟨a1, a2, a3, a4⟩)
          · by_cases e : k.2 = m
            · exact c2 ⟨Prod.ext a1 e, a4⟩
            · exact c3 (.inl ⟨a1, a2, by push_cast at a3; omega, a4⟩)
          · by_cases e : 40 + (m : Int) * 32 ≤ k.2
            · exact c1 ⟨a1, e, by push_cast at a3 ⊢; omega, a4⟩
            · exact c3 (.inr ⟨a1, a2, by omega, a4⟩)
theorem Xz (W : RS) (l2 : List Int) (ll : Nat → List Int) (h2 : ∀ j : Nat, j < 32 → l2.getD j 0 = qy W (5, j)) (hl : ∀ j : Nat, j < 32 → ll j = y6 W (zV 2 j)) (k : Int × Int) :
    Yw (je W) W.self.at_ (y6 W (zV 1 0)) l2 ll k = if (k.1 = 5 ∧ 0 ≤ k.2 ∧ k.2 < (32 : Nat) ∧ qy W k ≠ 0) ∨ (k.1 = 1 ∧ 40 ≤ k.2 ∧ k.2 < 40 + 32 * (32 : Nat) ∧ qy W k ≠ 0) then some (qy W k) else
      if k = (4, 0) ∧ qy W k ≠ 0 then some (qy W k) else if k.1 = 1 ∧ 8 ≤ k.2 ∧ k.2 < 40 ∧ qy W k ≠ 0 then some (qy W k) else
      if k = (3, 0) ∧ qy W k ≠ 0 then some (qy W k) else if k.1 = 1 ∧ 0 ≤ k.2 ∧ k.2 < 8 ∧ qy W k ≠ 0 then some (qy W k) else upd (fun _ => none) (2, 0) (some W.self.at_) k := by
  unfold Yw
  rw [leafF_spec W l2 ll _ h2 hl 32 (by omega) k]
  have hdb : (je W).db = qy W (4, 0) := rfl
  have hsg : (je W).sg = qy W (3, 0) := rfl
  rw [hdb, JT, hsg]
  have e1 : ∀ f, jx (y6 W (zV 1 0)) (k7 1 0) f k = if k.1 = 1 ∧ 8 ≤ k.2 ∧ k.2 < 40 ∧ qy W k ≠ 0 then some (qy W k) else f k := by
    intro f
    rw [ZV W _ _ _ (fun j x hx => by
      have hj : j < 32 := by have := (List.getElem?_eq_some_iff.1 hx).1; simpa [y6] using this
      rw [W0 W _ hj] at hx
      rw [← Option.some.inj hx]; unfold zV k7; rfl) k]
    rw [show k7 1 0 = 8 from rfl, show ((y6 W (zV 1 0)).length : Int) = 32 from by simp [y6]]; rfl
  have e2 : ∀ f, jx (je W).d (k7 0 0) f k = if k.1 = 1 ∧ 0 ≤ k.2 ∧ k.2 < 8 ∧ qy W k ≠ 0 then some (qy W k) else f k := by
    intro f
    rw [ZV W _ _ _ (fun j x hx => by
      have hj : j < 8 := by have := (List.getElem?_eq_some_iff.1 hx).1; simpa [je] using this
      have : (je W).d[j]? = some (qy W (1, j)) := by simp [je, hj]
      rw [this] at hx
      rw [← Option.some.inj hx, show k7 0 0 = 0 from rfl, Int.zero_add]) k]
    rw [show k7 0 0 = 0 from rfl, show ((je W).d.length : Int) = 8 from by simp [je]]; rfl
  rw [e1, JT, e2]
theorem loadF_val (W : RS) (l2 : List Int) (ll : Nat → List Int) (h2 : ∀ j : Nat, j < 32 → l2.getD j 0 = qy W (5, j)) (hl : ∀ j : Nat, j < 32 → ll j = y6 W (zV 2 j)) (k : Int × Int) {v : Int}
    (h : Yw (je W) W.self.at_ (y6 W (zV 1 0)) l2 ll k = some v) : v = qy W k := by
  rw [Xz W l2 ll h2 hl k] at h
  split at h
  · exact (Option.some.inj h).symm
  split at h
  · exact (Option.some.inj h).symm
  split at h
  · exact (Option.some.inj h).symm
  split at h
  · exact (Option.some.inj h).symm
  split at h
  · exact (Option.some.inj h).symm
  by_cases e : k = (2, 0)
  · subst e; rw [zW] at h; exact (Option.some.inj h).symm
  · rw [wk _ _ e] at h; cases h
theorem loadF_spec (W : RS) (l2 : List Int) (ll : Nat → List Int) (h0 : W.self.at_ ≠ 0) (h2 : ∀ j : Nat, j < 32 → l2.getD j 0 = qy W (5, j)) (hl : ∀ j : Nat, j < 32 → ll j = y6 W (zV 2 j)) (k : Int × Int) :
    Yw (je W) W.self.at_ (y6 W (zV 1 0)) l2 ll k ≠ none ↔ wC k ∧ qy W k ≠ 0 := by
  rw [Xz W l2 ll h2 hl k]
  have hself : qy W (2, 0) = W.self.at_ := rfl
  constructor
  · intro h
    split at h
    · rename_i c
      rcases c with ⟨a1, a2, a3, a4⟩ | ⟨a1, a2, a3, a4⟩
      · exact ⟨.inr (.inr (.inr (.inr ⟨a1, a2, by push_cast at a3; omega⟩))), a4⟩
      · exact ⟨.inl ⟨a1, by omega, by push_cast at a3; omega⟩, a4⟩
    · split at h
      · rename_i c; exact ⟨by rw [c.1]; exact zp, c.2⟩
      · split at h
        · rename_i c; exact ⟨.inl ⟨c.1, by omega, by omega⟩, c.2.2.2⟩
        · split at h
          · rename_i c; exact ⟨by rw [c.1]; exact zl, c.2⟩
          · split at h
            · rename_i c; exact ⟨.inl ⟨c.1, by omega, by omega⟩, c.2.2.2⟩
            · by_cases e : k = (2, 0)
              · subst e; exact ⟨yN, by rw [hself]; exact h0⟩
              · rw [wk _ _ e] at h; exact absurd rfl h
  · rintro ⟨hk, hne⟩
    rcases wT hk with ⟨i, hi, rfl⟩ | rfl | rfl | rfl | ⟨j, hj, rfl⟩
    · by_cases c1 : 40 ≤ i
      · rw [if_pos (.inr ⟨rfl, c1, by have := hi.2; push_cast; (try dsimp only); omega, hne⟩)]; simp
      · rw [if_neg (by rintro (⟨h, -⟩ | ⟨-, h, -⟩); · simp at h
                       · exact c1 h), if_neg (by simp)]
        by_cases c2 : 8 ≤ i
        · rw [if_pos ⟨rfl, c2, by dsimp only; omega, hne⟩]; simp
        · rw [if_neg (fun h => c2 h.2.1), if_neg (by simp), if_pos ⟨rfl, hi.1, by dsimp only; omega, hne⟩]; simp
    · rw [if_neg (by simp), if_neg (by simp), if_neg (by simp), if_neg (by simp), if_neg (by simp), zW]; simp
    · rw [if_neg (by simp), if_neg (by simp), if_neg (by simp), if_pos ⟨rfl, hne⟩]; simp
    · rw [if_neg (by simp), if_pos ⟨rfl, hne⟩]; simp
    · rw [if_pos (.inl ⟨rfl, hj.1, by push_cast; exact hj.2, hne⟩)]; simp
theorem V2 (D : Int → Option Sec) : gS false D = D := by funext a; rfl
theorem JD {W : RS} {f : Int → Int × Int} (h : ∀ j : Nat, j < 32 → qy W (f j) = 0) : y6 W f = kS := by
  unfold y6 kS
  rw [List.eq_replicate_iff]
  refine ⟨by simp, fun x hx => ?_⟩
  obtain ⟨j, hj, rfl⟩ := List.mem_map.1 hx
  exact h j (List.mem_range.1 hj)
theorem Inv.whBd {W : RS} {D : Int → Option Sec} {nx : Int} (hI : Inv W D nx) (hnx : nx ≤ 65536) {k : Int × Int} (hk : wC k) : 0 ≤ qy W k ∧ qy W k ≤ 65535 := by
  by_cases h : qy W k = 0
  · omega
  · have := hI.rngA k hk h; omega
theorem Inv.rok {W : RS} {D : Int → Option Sec} {nx : Int} (hI : Inv W D nx) (hnx : nx ≤ 65536) : ROk W := ⟨by rw [hI.num]; omega, by rw [hI.ver]; omega, hI.kind, hI.size, hI.time, fun _ hk => hI.whBd hnx hk⟩
theorem load_cpl {W : RS} {D : Int → Option Sec} {nx : Int} (hI : Inv W D nx) (hnx : nx ≤ 65536) (hp : zh W = []) (h0 : W.self.at_ ≠ 0) :
    ∃ n', Cpl n' W ∧ ∀ (w0 : World) (F : Res) (Dc G : qV) (rv : Value), kn G → KC rv Dc D →
      FnT Tryz.prog w0 68 #[.agg (ww ((D W.self.at_).getD Sec.zero)).toArray, .int .i64 W.self.at_, rv] (Dc :: G :: F)
        (fun v' L' => ∃ p' Cn', v' = .tuple #[.pointer (some ⟨p', 0, none⟩), .int .i64 0] ∧ NodeC p' n' Cn' ∧ L' = Cn' :: Dc :: G :: F) := by
  have hnp : ∀ k, wC k → ¬ prR W k := fun k hk h => by
    have := (QD W k).2 ⟨hk, h⟩; rw [hp] at this; cases this
  have hnone := Vj (hnp (2, 0) yN)
  have hgone : W.gone = [] := Classical.byContradiction fun e => hnp _ yN (Zp (hI.gone e))
  have hrok := hI.rok hnx
  have hx : (je W).Ok := KK hrok
  have hself : qy W (2, 0) = W.self.at_ := rfl
  have hds := hI.disk (2, 0) yN h0 (hnp _ yN)
  rw [hself] at hds
  have hsec : zB W (2, 0) = Zx (je W) hx := by
    unfold zB; rw [if_neg (by decide), if_neg (by decide), if_neg (by decide), if_neg (by decide), Kv hx]
  have hdsk : ∀ k, wC k → qy W k ≠ 0 → D (qy W k) = some (zB W k) := fun k hk h => hI.disk k hk h (hnp k hk)
  have hblk0 : ∀ i, InB i → (W.all i).has = false → qy W (1, i) = 0 := fun i hi hh => by
    rw [yK]
    refine Classical.byContradiction fun e => ?_
    rw [(hI.has i hi).2 (.inr e)] at hh; cases hh
  have hnok : ∀ k, wC k → k.1 ≠ 1 → k.1 ≠ 2 → qy W k = 0 → ¬ jp W k := fun k hk h1 h2 h hkid => (hI.place k hk h1 (fun _ => hkid)).elim (fun e => e h) (hnp k hk)
  have hchild : ∀ k i, wC k → k.1 ≠ 1 → k.1 ≠ 2 → qy W k = 0 → InB i → zF i = k → qy W (1, i) = 0 := fun k i hk h1 h2 h hi ha => hblk0 i hi (by
    cases e : (W.all i).has with
    | false => rfl
    | true => exact absurd ⟨i, hi, e, .inr ha⟩ (hnok k hk h1 h2 h))
  have hab1 : ∀ j : Nat, j < 32 → InB (8 + 0 * 32 + j) ∧ zF (8 + 0 * 32 + j) = (3, 0) := fun j hj => ⟨⟨by omega, by omega⟩, Wy.2 (by unfold wW; rw [if_neg (by omega), if_neg (by omega), if_pos (by omega)])⟩
  have hab2 : ∀ (i : Int) (j : Nat), 0 ≤ i ∧ i < 32 → j < 32 → InB (40 + i * 32 + j) ∧ zF (40 + i * 32 + j) = (5, i) := fun i j hi hj => ⟨⟨by omega, by omega⟩, Wx.2 (by unfold wW; rw [if_neg (by omega), if_neg (by omega), if_neg (by omega), if_pos (by omega)]; exact ⟨rfl, by dsimp only; omega⟩)⟩
  have h10 : (je W).sg = 0 → y6 W (zV 1 0) = kS := fun e => JD fun j hj => by
    have := hab1 j hj
    exact hchild (3, 0) _ zl (by decide) (by decide) e this.1 this.2
  have h20 : (je W).db = 0 → y6 W (fun j => (5, j)) = kS := fun e => JD fun j hj => by
    refine Classical.byContradiction fun hne => ?_
    obtain ⟨i, hi, hh, hu⟩ := hI.kid (5, (j : Int)) (xa j hj) (by simp) (by simp) (.inl hne)
    rcases hu with ⟨hu, -⟩ | hu
    · cases hu
    · exact hnok (4, 0) zp (by decide) (by decide) e ⟨i, hi, hh, .inl ⟨rfl, by rw [hu]⟩⟩
  let l2 := y6 W (fun j => (5, j))
  let ll : Nat → List Int := fun i => if i < 32 then y6 W (zV 2 i) else kS
  have hl2 : ∀ j : Nat, j < 32 → l2.getD j 0 = qy W (5, (j : Int)) := fun j hj => by
    show (y6 W (fun j => (5, j))).getD j 0 = _
    rw [List.getD_eq_getElem?_getD, W0 W _ hj]; rfl
  have hll : ∀ j : Nat, j < 32 → ll j = y6 W (zV 2 j) := fun j hj => if_pos hj
  have hz : jk kS := ⟨by simp [kS], fun a ha => by rw [kS, List.mem_replicate] at ha; omega⟩
  have h1 : jk (y6 W (zV 1 0)) := ZC hrok xx
  have h2 : jk l2 := ZC hrok xa
  have h3 : ∀ i, jk (ll i) := fun i => by
    show jk (if i < 32 then y6 W (zV 2 i) else kS)
    split
    · exact ZC hrok (xw ⟨by omega, by omega⟩)
    · exact hz
  refine ⟨Vt (je W) W.self.at_ (y6 W (zV 1 0)) l2 ll, ?_, ?_⟩
  · have hval := fun k v => loadF_val W l2 ll hl2 hll k (v := v)
    have hiff := loadF_spec W l2 ll h0 hl2 hll
    refine ⟨rfl, rfl, rfl, rfl, rfl, fun k hk => ?_, fun i hi => ?_, fun k hk hk1 => ?_, fun i => rfl, by rw [hgone]; exact List.Perm.refl _, ⟨fun k hk => absurd rfl hk, fun k hk => ((hiff k).1 hk).1, fun k a ha => ?_, fun k hk => absurd rfl hk⟩⟩
    · show (Yw _ _ _ _ _ k).getD 0 = _
      cases e : Yw (je W) W.self.at_ (y6 W (zV 1 0)) l2 ll k with
      | some v => exact hval k v e
      | none =>
        refine Classical.byContradiction fun hne => ?_
        exact (hiff k).2 ⟨hk, fun e2 => hne (by rw [e2]; rfl)⟩ e
    · rw [hnone.1 i hi]; rfl
    · show none ≠ none ↔ _
      rw [hnone.2 k hk hk1]; simp
    · have ha' : Yw (je W) W.self.at_ (y6 W (zV 1 0)) l2 ll k = some a := ha
      have hk := (hiff k).1 (by rw [ha']; simp)
      have := hI.rngA k hk.1 hk.2
      rw [hval k a ha']; omega
  · intro w0 F Dc G rv hg hr
    rw [hds, hsec]
    exact load_ok G Dc hg (je W) hx hI.size.2 W.self.at_ rv D hr (y6 W (zV 1 0)) l2 ll h1 h10
      (fun e => by
        have := hdsk (3, 0) zl e
        rw [show (je W).sg = qy W (3, 0) from rfl, this]
        unfold zB; rw [if_neg (by decide), if_neg (by decide), if_pos rfl, Wf h1])
      h2 h20
      (fun e => by
        have := hdsk (4, 0) zp e
        rw [show (je W).db = qy W (4, 0) from rfl, this]
        unfold zB; rw [if_neg (by decide), if_neg (by decide), if_neg (by decide), if_pos rfl]; exact congrArg some (Wf h2))
      h3
      (fun i e => by
        by_cases hi : i < 32
        · rw [hll i hi]
          rw [hl2 i hi] at e
          refine JD fun j hj => ?_
          have := hab2 i j ⟨by omega, by omega⟩ hj
          exact hchild (5, (i : Int)) _ (xa i hi) (by simp) (by simp) e this.1 this.2
        · exact if_neg hi)
      (fun i hi e => by
        rw [hl2 i hi] at e ⊢
        rw [hdsk (5, (i : Int)) (xa i hi) e]
        unfold zB; rw [if_neg (by simp), if_pos rfl]
        exact congrArg some ((Wf (h3 i)) ▸ (by rw [hll i hi])))
end
end Go.Proofs.YtjikpomndbkfgaaGreatDoor
